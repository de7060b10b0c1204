/-
  Texts of a claim, merged: Ord0, Ord1, RefE, Known0, Law16a, Law16e, Law16f, Law16g, Law16h, Law16i.
-/
import Derived.Test.YtbpbdigehfkjjaaM0
import Derived.Test.YtbpbdigehfkjjaaB2
import Derived.Test.YtbpbdigehfkjjaaSIds
import Derived.Test.YtbpbdigehfkjjaaCls
import Derived.Test.YtbpbdigehfkjjaaRow0
import Derived.Test.YtbpbdigehfkjjaaSprecentorlaw16
import Derived.Test.YtbpbdigehfkjjaaMak
import Derived.Test.YtbpbdigehfkjjaaCell0
set_option linter.unusedVariables false
set_option linter.unusedSimpArgs false
/-! Law HoldOrder: the plain part. Events numbered without gaps, and the clocks between them. -/
namespace Go.Proofs.Ytbpbdigehfkjjaa
open Go.Ab

def stsO (c0 c1 c2 : Int) (b0 b2 : Bool) (m : Int) : List (Int × Int) := (if b0 = true then [(0, c0 + 1)] else []) ++ [(1, c1 + 1)] ++ (if b2 = true then [(2, c2 + 1)] else []) ++ [(5, m)]
def cl3 (x y z : Int) : Slots := [(0, x), (1, y), (2, z)]
theorem stsO_len (c0 c1 c2 : Int) (b0 b2 : Bool) (m : Int) : (stsO c0 c1 c2 b0 b2 m).length ≤ 4 := by
  cases b0 <;> cases b2 <;> simp [stsO]
theorem stsO_no (c0 c1 c2 : Int) (b0 b2 : Bool) (m x y z : Int) (h : y ≠ c1 + 1) : due (cl3 x y z) (stsO c0 c1 c2 b0 b2 m) = false := by
  cases b0 <;> cases b2 <;> simp [stsO, due, dueF, cl3, has, nxt, h]
theorem stsO_yes (c0 c1 c2 : Int) (b0 b2 : Bool) (m : Int) : due (cl3 (c0 + 1) (c1 + 1) (c2 + 1)) (stsO c0 c1 c2 b0 b2 m) = true ∧
    take (cl3 (c0 + 1) (c1 + 1) (c2 + 1)) (stsO c0 c1 c2 b0 b2 m) = cl3 (c0 + 1 + if b0 = true then 1 else 0) (c1 + 2) (c2 + 1 + if b2 = true then 1 else 0) := by
  have h : due (cl3 (c0 + 1) (c1 + 1) (c2 + 1)) (stsO c0 c1 c2 b0 b2 m) = true := by cases b0 <;> cases b2 <;> simp [stsO, due, dueF, cl3, has, nxt]
  refine ⟨h, ?_⟩
  unfold Go.Proofs.Ytbpbdigehfkjjaa.take
  rw [if_pos h]
  cases b0 <;> cases b2 <;> simp [stsO, bumps, bump, cl3] <;> omega

/-- Events in the order of their numbers; cl: the clock ahead of each, and behind the last. -/
structure Good (es : List Ev) (cl : List Slots) (c0 c2 : Int) : Prop where
  len : cl.length = es.length + 1
  fst : cl[0]? = some (cl3 1 1 1)
  last : cl[es.length]? = some (cl3 (c0 + 1) (es.length + 1) (c2 + 1))
  b0 : 0 ≤ c0 ∧ c0 ≤ es.length
  b2 : 0 ≤ c2 ∧ c2 ≤ es.length
  mid : ∀ (k : Nat) s, cl[k]? = some s → ∃ x z, s = cl3 x (k + 1) z ∧ 1 ≤ x ∧ x ≤ k + 1 ∧ 1 ≤ z ∧ z ≤ k + 1
  ev : ∀ (k : Nat) e, es[k]? = some e → e.c = 1 ∧ e.s = k + 1 ∧ e.ats = [] ∧ e.sts.length ≤ 4 ∧ ∀ x y z, y ≠ (k : Int) + 1 → due (cl3 x y z) e.sts = false
  nx : ∀ (k : Nat) e s s', es[k]? = some e → cl[k]? = some s → cl[k + 1]? = some s' → due s e.sts = true ∧ take s e.sts = s'
theorem Good.nil : Good [] [cl3 1 1 1] 0 0 :=
  ⟨rfl, rfl, rfl, by simp, by simp, fun k s h => by cases k with
    | zero => simp at h; subst h; exact ⟨1, 1, rfl, by omega, by omega, by omega, by omega⟩
    | succ k => simp at h, by simp, by simp⟩
theorem Good.snoc {es : List Ev} {cl : List Slots} {c0 c2 : Int} (g : Good es cl c0 c2) (b0 b2 : Bool) (m b e p : Int) :
    Good (es ++ [⟨1, b, es.length + 1, e, p, [], stsO c0 es.length c2 b0 b2 m⟩]) (cl ++ [cl3 (c0 + 1 + if b0 = true then 1 else 0) (es.length + 2) (c2 + 1 + if b2 = true then 1 else 0)]) (c0 + if b0 = true then 1 else 0) (c2 + if b2 = true then 1 else 0) := by
  have hl := g.len
  have w0 : (0 : Int) ≤ (if b0 = true then 1 else 0) ∧ (if b0 = true then (1 : Int) else 0) ≤ 1 := by split <;> omega
  have w2 : (0 : Int) ≤ (if b2 = true then 1 else 0) ∧ (if b2 = true then (1 : Int) else 0) ≤ 1 := by split <;> omega
  have q0 := g.b0
  have q2 := g.b2
  refine ⟨by simp [hl], ?_, ?_, by simp; omega, by simp; omega, fun k s h => ?_, fun k x h => ?_, fun k x s s' hx hs hs' => ?_⟩
  · rw [List.getElem?_append_left (by omega)]; exact g.fst
  · rw [List.getElem?_append_right (by simp; omega)]
    have e0 : (es ++ [(⟨1, b, es.length + 1, e, p, [], stsO c0 es.length c2 b0 b2 m⟩ : Ev)]).length - cl.length = 0 := by simp [hl]
    rw [e0]
    have e1 : c0 + 1 + (if b0 = true then (1 : Int) else 0) = c0 + (if b0 = true then 1 else 0) + 1 := by omega
    have e2 : (es.length : Int) + 2 = ((es ++ [(⟨1, b, es.length + 1, e, p, [], stsO c0 es.length c2 b0 b2 m⟩ : Ev)]).length : Int) + 1 := by simp; omega
    have e3 : c2 + 1 + (if b2 = true then (1 : Int) else 0) = c2 + (if b2 = true then 1 else 0) + 1 := by omega
    rw [← e1, ← e2, ← e3]
    rfl
  · by_cases hk : k < cl.length
    · rw [List.getElem?_append_left hk] at h; exact g.mid k s h
    · rw [List.getElem?_append_right (by omega)] at h
      have : k - cl.length = 0 := by have := (List.getElem?_eq_some_iff.1 h).1; simp at this; omega
      rw [this] at h
      simp at h
      subst h
      have : k = es.length + 1 := by omega
      subst this
      have e2 : (es.length : Int) + 2 = ((es.length + 1 : Nat) : Int) + 1 := by omega
      exact ⟨c0 + 1 + (if b0 = true then 1 else 0), c2 + 1 + (if b2 = true then 1 else 0), by rw [e2], by omega, by omega, by omega, by omega⟩
  · by_cases hk : k < es.length
    · rw [List.getElem?_append_left hk] at h; exact g.ev k x h
    · rw [List.getElem?_append_right (by omega)] at h
      have : k - es.length = 0 := by have := (List.getElem?_eq_some_iff.1 h).1; simp at this; omega
      rw [this] at h
      simp at h
      subst h
      have : k = es.length := by omega
      subst this
      exact ⟨rfl, rfl, rfl, stsO_len _ _ _ _ _ _, fun x y z hy => stsO_no _ _ _ _ _ _ _ _ _ hy⟩
  · by_cases hk : k < es.length
    · rw [List.getElem?_append_left hk] at hx
      rw [List.getElem?_append_left (by omega)] at hs hs'
      exact g.nx k x s s' hx hs hs'
    · rw [List.getElem?_append_right (by omega)] at hx
      have : k - es.length = 0 := by have := (List.getElem?_eq_some_iff.1 hx).1; simp at this; omega
      rw [this] at hx
      simp at hx
      subst hx
      have : k = es.length := by omega
      subst this
      rw [List.getElem?_append_left (by omega), g.last] at hs
      rw [List.getElem?_append_right (by omega)] at hs'
      cases hs
      simp [hl] at hs'
      subst hs'
      exact stsO_yes _ _ _ _ _ _

theorem dueI_none {s : Slots} : ∀ {es : List Ev}, dueI s es = none → ∀ x, x ∈ es → due s x.sts = false
  | [], _, x, h => by simp at h
  | y :: l, hd, x, h => by
    simp only [dueI] at hd
    split at hd
    · cases hd
    · rename_i hn
      rcases List.mem_cons.1 h with rfl | q
      · simpa using hn
      · refine dueI_none (es := l) ?_ x q
        cases e : dueI s l with
        | none => rfl
        | some j => rw [e] at hd; cases hd
end Go.Proofs.Ytbpbdigehfkjjaa

/-! Law HoldOrder: the plain part. What waits, while events are put in any order. -/
namespace Go.Proofs.Ytbpbdigehfkjjaa
open Go.Ab

/-- The events, in any order. -/
structure AnyO (es al : List Ev) : Prop where
  perm : al.Perm es
  dist : al.Pairwise fun x y => x.s ≠ y.s
theorem AnyO.of {es : List Ev} {cl : List Slots} {c0 c2 : Int} (g : Good es cl c0 c2) : AnyO es es := by
  refine ⟨List.Perm.refl _, List.pairwise_iff_getElem.2 fun i j hi hj hij => ?_⟩
  have a := (g.ev i _ (List.getElem?_eq_getElem hi)).2.1
  have b := (g.ev j _ (List.getElem?_eq_getElem hj)).2.1
  rw [a, b]
  omega
theorem AnyO.move {es al : List Ev} (o : AnyO es al) {k : Nat} {x : Ev} (hx : al[k]? = some x) : AnyO es ([x] ++ (al.take k ++ al.drop (k + 1))) := by
  have a := List.getElem?_eq_some_iff.1 hx
  have e : al.take k ++ x :: al.drop (k + 1) = al := by
    rw [← a.2, ← List.drop_eq_getElem_cons a.1, List.take_append_drop]
  have p : ([x] ++ (al.take k ++ al.drop (k + 1))).Perm al := by
    have := List.perm_middle (a := x) (l₁ := al.take k) (l₂ := al.drop (k + 1))
    rw [e] at this
    exact this.symm
  exact ⟨p.trans o.perm, (List.Perm.pairwise_iff (fun h => h.symm) p).2 o.dist⟩
theorem AnyO.idx {es al : List Ev} (o : AnyO es al) {i j : Nat} {x y : Ev} (hx : al[i]? = some x) (hy : al[j]? = some y) (h : x.s = y.s) : i = j := by
  have a := List.getElem?_eq_some_iff.1 hx
  have b := List.getElem?_eq_some_iff.1 hy
  rcases Nat.lt_trichotomy i j with q | q | q
  · exact absurd h (by have := List.pairwise_iff_getElem.1 o.dist i j a.1 b.1 q; rwa [a.2, b.2] at this)
  · exact q
  · exact absurd h.symm (by have := List.pairwise_iff_getElem.1 o.dist j i b.1 a.1 q; rwa [a.2, b.2] at this)
theorem AnyO.eq {es al : List Ev} (o : AnyO es al) {x y : Ev} (hx : x ∈ al) (hy : y ∈ al) (h : x.s = y.s) : x = y := by
  obtain ⟨i, hi⟩ := List.mem_iff_getElem?.1 hx
  obtain ⟨j, hj⟩ := List.mem_iff_getElem?.1 hy
  have := o.idx hi hj h
  subst this
  rw [hi] at hj
  cases hj
  rfl

/-- W waits: of the first i that were put, those whose number is nx or more. -/
structure OW (al : List Ev) (i nx : Nat) (W : List Ev) : Prop where
  w1 : ∀ e, e ∈ W → e ∈ al.take i ∧ (nx : Int) ≤ e.s
  w2 : ∀ e, e ∈ al.take i → (nx : Int) ≤ e.s → e ∈ W
  w3 : ∀ e, e ∈ al → e.s < (nx : Int) → e ∈ al.take i
  wl : W.length + nx = i + 1
  wd : W.Pairwise fun x y => x.s ≠ y.s
  n1 : 1 ≤ nx
theorem OW.nil {al : List Ev} (h : ∀ e, e ∈ al → 1 ≤ e.s) : OW al 0 1 [] :=
  ⟨by simp, by simp, fun e he q => by have := h e he; omega, by simp, by simp, by omega⟩
theorem take_succ_mem {al : List Ev} {i : Nat} {x e : Ev} (hx : al[i]? = some x) : e ∈ al.take (i + 1) ↔ e ∈ al.take i ∨ e = x := by
  rw [List.take_add_one, hx]
  simp
theorem AnyO.out {es al : List Ev} (o : AnyO es al) {i : Nat} {x e : Ev} (hx : al[i]? = some x) (he : e ∈ al.take i) : e.s ≠ x.s := fun h => by
  obtain ⟨j, hj⟩ := List.mem_iff_getElem?.1 he
  rw [List.getElem?_take] at hj
  split at hj
  · have := o.idx hj hx h; omega
  · cases hj
theorem OW.put {es al W : List Ev} {i nx : Nat} (w : OW al i nx W) (o : AnyO es al) {x : Ev} (hx : al[i]? = some x) : OW al (i + 1) nx (W ++ [x]) := by
  have hxn : (nx : Int) ≤ x.s := by
    have := mt (w.w3 x (List.mem_of_getElem? hx)) fun h => o.out hx h rfl
    omega
  refine ⟨fun e he => ?_, fun e he q => ?_, fun e he q => (take_succ_mem hx).2 (.inl (w.w3 e he q)), by have := w.wl; simp; omega, ?_, w.n1⟩
  · rcases List.mem_append.1 he with h | h
    · exact ⟨(take_succ_mem hx).2 (.inl (w.w1 e h).1), (w.w1 e h).2⟩
    · simp at h
      subst h
      exact ⟨(take_succ_mem hx).2 (.inr rfl), hxn⟩
  · rcases (take_succ_mem hx).1 he with h | h
    · exact List.mem_append_left _ (w.w2 e h q)
    · subst h; simp
  · rw [List.pairwise_append]
    refine ⟨w.wd, by simp, fun a ha b hb => ?_⟩
    simp at hb
    subst hb
    exact o.out hx (w.w1 a ha).1
theorem OW.held {es al W : List Ev} {i nx : Nat} (w : OW al i nx W) (o : AnyO es al) {x : Ev} (hx : al[i]? = some x) : heldE W x = false := by
  unfold heldE
  rw [List.any_eq_false]
  intro y hy
  have := o.out hx (w.w1 y hy).1
  simp [this]
theorem OW.next {es al W : List Ev} {i nx : Nat} (w : OW al i nx W) (o : AnyO es al) {j : Nat} {x : Ev} (hx : W[j]? = some x) (hs : x.s = nx) : OW al i (nx + 1) (W.take j ++ W.drop (j + 1)) := by
  have a := List.getElem?_eq_some_iff.1 hx
  have hm := List.mem_of_getElem? hx
  have e : W.take j ++ x :: W.drop (j + 1) = W := by
    rw [← a.2, ← List.drop_eq_getElem_cons a.1, List.take_append_drop]
  have wd := w.wd
  rw [← e, List.pairwise_append, List.pairwise_cons] at wd
  have has : ∀ z, z ∈ al.take i → z ∈ al := fun z hz => List.mem_of_mem_take hz
  have ne : ∀ y, y ∈ W.take j ++ W.drop (j + 1) → y.s ≠ x.s := fun y hy => by
    rcases List.mem_append.1 hy with h | h
    · exact wd.2.2 y h x (by simp)
    · exact fun q => wd.2.1.1 y h q.symm
  have sub : ∀ y, y ∈ W.take j ++ W.drop (j + 1) → y ∈ W := fun y hy => by
    rw [← e]
    rcases List.mem_append.1 hy with h | h
    · exact List.mem_append_left _ h
    · exact List.mem_append_right _ (List.mem_cons_of_mem _ h)
  refine ⟨fun y hy => ⟨(w.w1 y (sub y hy)).1, ?_⟩, fun y hy q => ?_, fun y hy q => ?_, ?_, ?_, by omega⟩
  · have h1 := (w.w1 y (sub y hy)).2
    have h2 := ne y hy
    rw [hs] at h2
    omega
  · have h := w.w2 y hy (by omega)
    rw [← e] at h
    rcases List.mem_append.1 h with h | h
    · exact List.mem_append_left _ h
    · rcases List.mem_cons.1 h with h | h
      · subst h; omega
      · exact List.mem_append_right _ h
  · by_cases h : y.s < nx
    · exact w.w3 y hy h
    · have : y = x := o.eq hy (has x (w.w1 x hm).1) (by omega)
      subst this
      exact (w.w1 y hm).1
  · have := w.wl; have := a.1; simp; omega
  · rw [List.pairwise_append]
    exact ⟨wd.1, wd.2.1.2, fun p hp q hq => wd.2.2 p hp q (List.mem_cons_of_mem _ hq)⟩
end Go.Proofs.Ytbpbdigehfkjjaa

/-! What precentorref1.SameEvent tells of two events that are alike but for their attributes. -/
namespace Go.Proofs.Ytbpbdigehfkjjaa
open Go.Ab
section
variable {X : XTab}
theorem ref_SameEvent (hX : OnlyKnown X) (hty : isTwo Try.prog 34 = true) {h : Heap} {x : Ev} {va vs wa ws : AVal} {m : List Att} (oa : Sl attrR h va x.ats) (os : Sl pairR h vs x.sts) (pa : Sl attrR h wa m) (ps : Sl pairR h ws x.sts)
    (l1 : x.ats.length < 2 ^ 60) (l2 : m.length < 2 ^ 60) (l3 : x.sts.length < 2 ^ 60) :
    Tells (fun q => acallX Try.prog X q F_precentorref1_SameEvent [.agg (evC x va vs), .agg (evC x wa ws)] h) fun a h' => a = .bool (sameA x.ats m) ∧ Ext [] h h' := by
  refine R_precentorref1_SameEvent _ _ (hX _ _ rfl) ?_
  refine Tells.prot fun Q' hQ => ?_
  unfold S_precentorref1_SameEvent
  try simp
  refine Tells.box (cs := evC x va vs) (by simp [evC, AVal.known, oa.known, os.known]) (by simp [evC, AVal.cells]) fun h1 b1 o1 x1 k1 => ?_
  try simp
  refine Tells.box (cs := evC x wa ws) (by simp [evC, AVal.known, pa.known, ps.known]) (by simp [evC, AVal.cells]) fun h2 b2 o2 x2 k2 => ?_
  have o12 := o1.e x2
  have e2 := x1.trans x2
  simp [o12.1, o2.1, evC, (os.ext e2).len, (ps.ext e2).len, J_precentorref1_SameEvent_0]
  refine Tells.bind (Tells.loop (fun n t g => ∃ i : Nat, t 2 = .ptr b1 0 ∧ t 3 = .ptr b2 0 ∧ t 5 = I i ∧ i + n = x.sts.length ∧ g = h2)
    (Q := fun p g => p.1 = .exit 0 ∧ p.2 2 = .ptr b1 0 ∧ p.2 3 = .ptr b2 0 ∧ g = h2) ?_ x.sts.length _ _ ?_) ?_
  · rintro n t g ⟨i, t2, t3, t5, hi, rfl⟩
    refine Tells.prot fun Q2 hQ2 => ?_
    unfold L_precentorref1_SameEvent_2
    simp [t2, t5, o12.1, evC, (os.ext e2).len]
    refine Tells.cb (fun hc => ?_) (fun hc => ?_)
    · simp at hc
      obtain ⟨⟨a, n'⟩, ha⟩ : ∃ d, x.sts[i]? = some d := ⟨_, List.getElem?_eq_getElem hc⟩
      obtain ⟨b, p, B, c, q1, q2, q3⟩ := (os.ext e2).at (n := 2) rfl (i := (i : Int)) (by omega) (by simpa using ha)
      obtain ⟨b', p', B', c', r1, r2, r3⟩ := (ps.ext e2).at (n := 2) rfl (i := (i : Int)) (by omega) (by simpa using ha)
      have q3 : c = [I a, I n'] := q3
      have r3 : c' = [I a, I n'] := r3
      have q5 := q2.get
      have q6 : p + 2 ≤ B.length := by have := q2.le; rw [q3] at this; exact this
      have q7 : (B.drop p).take 2 = [I a, I n'] := by have := q2.eq; rw [q3] at this; exact this
      have r5 := r2.get
      have r6 : p' + 2 ≤ B'.length := by have := r2.le; rw [r3] at this; exact this
      have r7 : (B'.drop p').take 2 = [I a, I n'] := by have := r2.eq; rw [r3] at this; exact this
      have w : IntKind.i64.wrap ((i : Int) + 1) = i + 1 := wrap_id (by omega) (by omega)
      have ne := fun u v => aBin_neq2 (P := Try.prog) hty u v a n' a n'
      simp only [beq_self_eq_true, Bool.and_self, Bool.not_true] at ne
      simp [J_precentorref1_SameEvent_3, t2, t3, t5, o12.1, o2.1, evC, q1, r1, q5, q6, q7, r5, r6, r7, ne, J_precentorref1_SameEvent_4, w]
      exact Tells.ok (hQ2 _ _ (.inl ⟨rfl, n - 1, by omega, i + 1, by simp [t2], by simp [t3], by simp, by omega, rfl⟩))
    · exact Tells.ok (hQ2 _ _ (.inr ⟨by simp, rfl, by simp [t2], by simp [t3], rfl⟩))
  · exact ⟨0, by simp, by simp, by simp, by omega, rfl⟩
  · rintro ⟨ex, t⟩ g ⟨rfl, t2, t3, rfl⟩
    simp only at t2 t3
    simp [J_precentorref1_SameEvent_1, t2, t3, o12.1, o2.1, evC]
    refine Tells.bind (ref_SameAttrs hX (oa.ext e2) (pa.ext e2) l1 l2) ?_
    rintro _ h3 ⟨rfl, x3⟩
    try simp
    exact Tells.ok (hQ _ _ ⟨rfl, e2.trans x3⟩)
end
end Go.Proofs.Ytbpbdigehfkjjaa

/-! The package's closed example; pointers beside nil. -/
namespace Go.Proofs.Ytbpbdigehfkjjaa
open Go.Ab

theorem known_X {X : XTab} {F : FuncId} (hk : X F [] = some (.bool true)) (h : Heap) : Tells (fun m => acallX Try.prog X m F [] h) fun a h' => a = .bool true ∧ h' = h :=
  ⟨.bool true, h, ⟨rfl, rfl⟩, 1, fun m hm => by
    obtain ⟨k, rfl⟩ : ∃ k, m = k + 1 := ⟨m - 1, by omega⟩
    simp only [acallX, hk]⟩
theorem ptr_nil {t e : TypeId} (hu : Try.prog.underlying t = some (.pointer e)) (o1 o2 : Operand) (b p : Nat) : aBin Try.prog .eql t o1 o2 (.ptr b p) .nilp = some (.bool false) := by
  simp only [aBin, AVal.toV, aNilCmp, hu, nilRes]
theorem ptr_nil' {t e : TypeId} (hu : Try.prog.underlying t = some (.pointer e)) (o1 o2 : Operand) (b p : Nat) : aBin Try.prog .neq t o1 o2 (.ptr b p) .nilp = some (.bool true) := by
  simp only [aBin, AVal.toV, aNilCmp, hu, nilRes]
end Go.Proofs.Ytbpbdigehfkjjaa

/-! Law HoldKeeps: the walk. -/
namespace Go.Proofs.Ytbpbdigehfkjjaa
open Go.Ab

theorem root_extC {b : Nat} {h h' : Heap} (x : ExtC b h h') (c : Nat) : h'.root c = h.root c := by unfold Heap.root; rw [x.cls]
theorem UpK.extC {K b : Nat} {h h' : Heap} {v : AVal} (w : UpK K h v) (x : ExtC b h h') : UpK K h' v := fun c hc => by
  obtain ⟨w1, w2, w3⟩ := w c hc
  exact ⟨by rw [root_extC x]; exact w1, by rw [x.n0]; exact w2, by rw [x.next]; exact w3⟩
theorem UpK.apart {K b : Nat} {h : Heap} {v : AVal} (w : UpK K h v) (hb : h.root b < K) : Apart h b v :=
  Apart.of fun c hc q => by have := (w c hc).1; omega
theorem Tells.litW' {β : Type} {Q : β → Heap → Prop} {h : Heap} {call : Nat → FuncId → List AVal → Heap → Res AVal} {α : Type} {r : Rp α} {xs : List α} {css : List (List AVal)} {n j : Nat} {z cells : List AVal} {parts : List (Nat × Nat × AVal)} {k : Nat → AVal → Heap → Res β} (hn : r.n = n) (o : All2 (r.rep h) css xs) (hk : xs.length = j) (hc : css.flatten = cells)
    (e : bslR n z j h parts = .val (.sl h.next 0 j j n true) (h.new false cells)) (q : ∀ v h1, Gl r h h1 v xs → Wr h h1 v → Ext [] h h1 → Tells (fun m => k m v h1) Q) : Tells (fun m => arb (bslR n z j h parts) (call m) (k m)) Q := by
  simp only [e, arb_val]
  have g := (Sl.lit (h0 := h) hn o hk hc).2
  refine q _ _ g (fun b hb => ?_) (Ext.new _ _ _)
  have hl := (g.1.blk b hb).2
  simp [AVal.blks] at hb
  subst hb
  refine ⟨?_, n0_le h, hl⟩
  unfold Heap.root
  rw [Heap.cls_new, Heap.cls_ge (Nat.le_refl _)]
  exact Nat.le_refl _
theorem pair_flat {h h' : Heap} {cs : List AVal} {x : Int × Int} : pairR.rep h cs x → pairR.rep h' cs x := fun q => q
theorem attr_flat {h h' : Heap} {cs : List AVal} {x : Att} : attrR.rep h cs x → attrR.rep h' cs x := fun q => q
theorem evR_extC {K b : Nat} {h h' : Heap} {cs : List AVal} {x : Ev} (e : (evR K).rep h cs x) (y : ExtC b h h') (hb : h.root b < K) : (evR K).rep h' cs x := by
  obtain ⟨va, vs, rfl, oa, os, ua, us⟩ := e
  exact ⟨va, vs, rfl, oa.extC attr_flat y (ua.apart hb), os.extC pair_flat y (us.apart hb), ua.extC y, us.extC y⟩
theorem Hd.extC {K : Nat} {h0 h h' : Heap} {b b' : Nat} {most : Int} {s : Slots} {es : List Ev} {vs vw : AVal} (o : Hd K h0 h b most s es vs vw) (x : ExtC b' h h') (hm : h.isM b' = false) (hb : h.root b' < K) (hK : K ≤ h0.next) (u : UpK K h vs) : Hd K h0 h' b most s es vs vw := by
  have uw : UpK K h vw := UpK.of o.wr hK
  obtain ⟨⟨css, h1, h2⟩, gr⟩ := o.ev
  refine ⟨o.ob.extC x hm, o.sl.extC pair_flat x (u.apart hb), ⟨⟨css, h1.extC x (uw.apart hb), h2.imp fun _ _ k => evR_extC k x hb⟩, gr.extC x (uw.apart hb)⟩, ?_⟩
  exact UpK.extC (K := h0.next) o.wr x

theorem RawInts.feed' {h : Heap} {v : AVal} {xs : List Int} {bf : Nat} (o : RawInts h v xs) (ob : Ob h bf [v, I 0]) : Feed h bf 0 := ⟨v, 0, xs, ob, by omega, by omega, o.sl, o.small, o.old⟩

theorem Tells.litX {β : Type} {Q : β → Heap → Prop} {h h1 : Heap} {call : Nat → FuncId → List AVal → Heap → Res AVal} {n j : Nat} {z : List AVal} {parts : List (Nat × Nat × AVal)} {v : AVal} {k : Nat → AVal → Heap → Res β} (e : bslR n z j h parts = .val v h1) (q : Tells (fun m => k m v h1) Q) :
    Tells (fun m => arb (bslR n z j h parts) (call m) (k m)) Q := by
  simp only [e, arb_val]
  exact q
theorem Tells.appNW {β : Type} {Q : β → Heap → Prop} {h : Heap} {call : Nat → FuncId → List AVal → Heap → Res AVal} {α : Type} {r : Rp α} {h0 : Heap} {xs ys : List α} {s v : AVal} {n by_ : Nat} {k : Nat → AVal → Heap → Res β} (g : Gl r h0 h s xs) (wr : Wr h0 h s) (o : Sl r h v ys) (hn : r.n = n) (hl : xs.length + ys.length ≤ 2 ^ 34)
    (hby : by_ ≤ 2 ^ 12) (hle : h0.next ≤ h.next) (q : ∀ s' h', Gl r h0 h' s' (xs ++ ys) → Wr h0 h' s' → Ext s.blks h h' → (∀ S, Ext S h0 h → Ext S h0 h') → (∀ b, b ∈ s'.blks → b ∈ s.blks ∨ h.next ≤ b) → Tells (fun m => k m s' h') Q) :
    Tells (fun m => arb (appR n by_ h s v) (call m) (k m)) Q := by
  obtain ⟨s', h', q1, q2, q3, q4, q5⟩ := g.appN (by_ := by_) o hn hl hby hle
  simp only [q1, arb_val]
  exact q s' h' q2 (appR_wr q1 wr hle) q3 q4 fun b hb => (q5 b hb).imp_right fun z => by omega
theorem Wr.low {S : List Nat} {a h g : Heap} {v : AVal} (w : Wr a h v) (e : Ext S h g) : ∀ c, c ∈ v.blks → g.root c < h.next ∧ g.n0 ≤ c := fun c hc => by
  obtain ⟨w1, w2, w3⟩ := w c hc
  have := root_le g c
  exact ⟨by omega, by rw [e.n0]; exact w2⟩

/-- What is handed in, as the law changes it. -/
def keptE (x : Ev) (n : Int) : Ev := ⟨x.c, x.b, x.s, x.e, x.p, x.ats ++ [(bs [122], ⟨1, n, 0, bs [], false⟩)], [(3, 2)]⟩
def firstE (x : Ev) : Ev := ⟨x.c.tmod 6 + 1, 0, 1, 0, 0, [], [(3, 1)]⟩

section
variable {X : XTab}
/-- The end: two are told. -/
theorem keepsEnd (hX : OnlyKnown X) {Q' : AVal → Heap → Prop} (hQ : ∀ h, Q' (.bool true) h) {t : T} {g h0 : Heap} {K b bw bt : Nat} {x : Ev} {n : Int} {cv vw v56 v64 vt : AVal} (t7 : t 7 = .ptr bw 0) (t8 : t 8 = .ptr b 0) (t11 : t 11 = .ptr bt 0)
    (o : Hd K h0 g b 3 [(3, 1)] [keptE x n, firstE x] cv vw) (hle : h0.next ≤ g.next) (ow : Ob g bw (evC x v56 v64)) (oa : Sl attrR g v56 (keptE x n).ats) (os : Sl pairR g v64 [(3, 2)]) (ot : Ob g bt (evC (firstE x) .nils vt)) (hl : x.ats.length ≤ 5)
    (hbw : bw ≠ b) (hbt : bt ≠ b) :
    Tells (fun m => J_precentorlaw16_HoldKeeps_2 Try.prog (acallX Try.prog X m) m (retK Try.prog [.tmp 4]) t g) Q' := by
  have d1 : dueI [(3, 1)] [keptE x n, firstE x] = some 1 := rfl
  unfold J_precentorlaw16_HoldKeeps_2
  simp [t8]
  refine Tells.bind (hold_Next hX o hle (by simp) (by simp) (by simp [keptE, firstE]) (by intro z hz; simp at hz; subst hz; simp)) ?_
  rintro _ g1 ⟨e1, y1, ⟨q, _⟩ | ⟨i, z, va, vs, hi, hz, rfl, oa1, os1, cv1, vw1, o1⟩⟩
  · rw [d1] at q; cases q
  rw [d1] at hi
  cases hi
  simp at hz
  subst hz
  have ow1 := ow.ext e1 (by simpa using ⟨hbw, o.ev.1.ob ow⟩)
  have ot1 := ot.ext e1 (by simpa using ⟨hbt, o.ev.1.ob ot⟩)
  have oas := oa.ext e1
  have oss := os.ext e1
  have hle1 := Nat.le_trans hle e1.next
  simp [extR]
  refine Tells.newSt (ds := evC (firstE x) va vs) (by rfl) (by rfl) (by rfl) (by simp [evC, oa1.one, os1.one]) fun g2 bx ox x2 l2 => ?_
  have o2 := o1.ext x2 (by simp) (by simp)
  have o2 : Hd K h0 g2 b 3 [(3, 2)] [keptE x n] cv1 vw1 := o2
  have ow2 := ow1.e x2
  have ot2 := ot1.e x2
  have d2 : dueI [(3, 2)] [keptE x n] = some 0 := rfl
  simp [t8]
  refine Tells.bind (hold_Next hX o2 (Nat.le_trans hle1 x2.next) (by simp) (by simp) (by simp [keptE]) (by intro z hz; simp at hz; subst hz; simp)) ?_
  rintro _ g3 ⟨e3, y3, ⟨q, _⟩ | ⟨i, z, va3, vs3, hi, hz, rfl, oa3, os3, cv3, vw3, o3⟩⟩
  · rw [d2] at q; cases q
  rw [d2] at hi
  cases hi
  simp at hz
  subst hz
  have hbx : bx ≠ b := by have := o1.ob.lt; omega
  have ow3 := ow2.ext e3 (by simpa using ⟨hbw, o2.ev.1.ob ow2⟩)
  have ot3 := ot2.ext e3 (by simpa using ⟨hbt, o2.ev.1.ob ot2⟩)
  have ox3 := ox.ext e3 (by simpa using ⟨hbx, o2.ev.1.ob ox⟩)
  simp [extR]
  refine Tells.newSt (ds := evC (keptE x n) va3 vs3) (by rfl) (by rfl) (by rfl) (by simp [evC, oa3.one, os3.one]) fun g4 bY oy x4 l4 => ?_
  have ow4 := ow3.e x4
  have ot4 := ot3.e x4
  have ox4 := ox3.e x4
  have ow4 : Ob g4 bw (evC (keptE x n) v56 v64) := ow4
  have e34 := (e3.then x4 (by simp))
  have oa4 := ((oas.ext x2).ext e3).ext x4
  have os4 := ((oss.ext x2).ext e3).ext x4
  have oy1 := oy.1
  have ow1' := ow4.1
  simp only [evC] at oy1 ow1'
  simp [ox4.1, ot4.1, evC, t11, t7, oy1, ow1']
  refine Tells.bind (ref_SameEvent hX (by kernel_rfl) (x := keptE x n) (va := va3) (vs := vs3) (wa := v56) (ws := v64) (oa3.ext x4) (os3.ext x4) oa4 os4 (by simp [keptE]; omega) (by simp [keptE]; omega) (by simp [keptE])) ?_
  rintro _ g5 ⟨rfl, x5⟩
  simp [sameA_self]
  exact Tells.ok (hQ _)
/-- What is handed in is written in; nothing is due; a first one is put. -/
theorem keepsMid (hX : OnlyKnown X) {Q' : AVal → Heap → Prop} (hQ : ∀ h, Q' (.bool true) h) {t : T} {g h0 : Heap} {K b be bw : Nat} {x : Ev} {n : Int} {cv vw v38 v20 v56 v64 : AVal} (t1 : t 1 = I n) (t6 : t 6 = .ptr be 0) (t7 : t 7 = .ptr bw 0) (t8 : t 8 = .ptr b 0)
    (hxc : 1 ≤ x.c ∧ x.c ≤ 6) (hl : x.ats.length ≤ 5)
    (o : Hd K h0 g b 3 [(3, 1)] [keptE x n] cv vw) (uc : UpK K g cv) (hK : K ≤ h0.next) (hle : h0.next ≤ g.next)
    (oe : Ob g be (evC x v38 v20)) (pa : Sl attrR g v38 (keptE x n).ats) (ps : Sl pairR g v20 [(3, 2)]) (wa : ∀ c, c ∈ v38.blks → g.root c < K ∧ g.n0 ≤ c) (ws : ∀ c, c ∈ v20.blks → g.root c < K ∧ g.n0 ≤ c) (ap : ∀ c, c ∈ v38.blks → Apart g c v20)
    (ow : Ob g bw (evC x v56 v64)) (oa : Sl attrR g v56 (keptE x n).ats) (os : Sl pairR g v64 [(3, 2)]) (ua : UpK K g v56) (us : UpK K g v64) (hbw : bw ≠ b) (hbe : be ≠ b) :
    Tells (fun m => J_precentorlaw16_HoldKeeps_0 Try.prog (acallX Try.prog X m) m (retK Try.prog [.tmp 4]) t g) Q' := by
  have hlen : (keptE x n).ats.length = x.ats.length + 1 := by simp [keptE]
  have hz : (keptE x n).ats[x.ats.length]? = some (bs [122], ⟨1, n, 0, bs [], false⟩) := by simp [keptE]
  have w1 : IntKind.i64.wrap (((x.ats.length + 1 : Nat) : Int) - 1) = x.ats.length := by rw [wrap_id (by omega) (by omega)]; omega
  obtain ⟨b1, p1, B1, c1, hb1, hm1, hlt1, i1, el1, hr1, k1⟩ := pokeC (n := 6) (by rfl) attr_flat pa (fun c hc => (wa c hc).2) hz
  have hr1 : c1 = attC (bs [122], ⟨1, n, 0, bs [], false⟩) := hr1
  subst hr1
  obtain ⟨hw1, _⟩ := wa b1 (by rw [hb1]; simp)
  obtain ⟨g1, st1, xc1, -, -⟩ := k1 2 (I (IntKind.i64.wrap (n + 1))) (bs [122], ⟨1, IntKind.i64.wrap (n + 1), 0, bs [], false⟩) (by decide) rfl rfl rfl
  have o1 := o.extC xc1 hm1 hw1 hK uc
  have uc1 := uc.extC xc1
  have oe1 := oe.extC xc1 hm1
  have ps1 := ps.extC pair_flat xc1 (ap b1 (by rw [hb1]; simp))
  have ow1 := ow.extC xc1 hm1
  have oa1 := oa.extC attr_flat xc1 (ua.apart hw1)
  have os1 := os.extC pair_flat xc1 (us.apart hw1)
  have ua1 := ua.extC xc1
  have us1 := us.extC xc1
  obtain ⟨b2, p2, B2, c2, hb2, hm2, hlt2, i2, el2, hr2, k2⟩ := pokeC (n := 2) (by rfl) pair_flat ps1 (fun c hc => by rw [xc1.n0]; exact (ws c hc).2) (i := 0) (y := (3, 2)) rfl
  have hr2 : c2 = [I 3, I 2] := hr2
  subst hr2
  have hw2 : g1.root b2 < K := by rw [root_extC xc1]; exact (ws b2 (by rw [hb2]; simp)).1
  obtain ⟨g2, st2, xc2, -, -⟩ := k2 1 (I 1) (3, 1) (by decide) rfl rfl rfl
  have o2 := o1.extC xc2 hm2 hw2 hK uc1
  have uc2 := uc1.extC xc2
  have oe2 := oe1.extC xc2 hm2
  have ow2 := ow1.extC xc2 hm2
  have oa2 := oa1.extC attr_flat xc2 (ua1.apart hw2)
  have os2 := os1.extC pair_flat xc2 (us1.apart hw2)
  have hle2 : h0.next ≤ g2.next := by rw [xc2.next, xc1.next]; exact hle
  have st1 : stR 1 g (.ptr b1 (p1 + 1 + 1)) (.int .i64 (IntKind.i64.wrap (n + 1))) = .val aUndef g1 := st1
  have st1' : stR 1 g (.ptr b1 (p1 + 2)) (.int .i64 (IntKind.i64.wrap (n + 1))) = .val aUndef g1 := st1
  have i2 : ixsR 2 v20 (.int .i64 0) = some (.ptr b2 p2) := i2
  have w1' : IntKind.i64.wrap (x.ats.length : Int) = x.ats.length := wrap_id (by omega) (by omega)
  have len1 : lenL v38 = some (I ((x.ats.length : Int) + 1)) := by have := pa.len; rw [hlen] at this; exact this
  simp [J_precentorlaw16_HoldKeeps_0, t1, t6, t8, oe.1, evC, len1, w1', i1, st1, st1', oe1.1, i2, st2]
  have d0 : dueI [(3, 1)] [keptE x n] = none := rfl
  refine Tells.bind (hold_Next hX o2 hle2 (by simp) (by simp) (by simp [keptE]) (by intro z hz; simp at hz; subst hz; simp)) ?_
  rintro _ g3 ⟨e3, y3, ⟨_, rfl, o3⟩ | ⟨i, z, va, vs, hi, _⟩⟩
  rotate_left
  · rw [d0] at hi; cases hi
  have oe3 := oe2.ext e3 (by simpa using ⟨hbe, o2.ev.1.ob oe2⟩)
  have ow3 := ow2.ext e3 (by simpa using ⟨hbw, o2.ev.1.ob ow2⟩)
  have oa3 := oa2.ext e3
  have os3 := os2.ext e3
  have hle3 := Nat.le_trans hle2 e3.next
  simp [extR]
  refine Tells.newSt (ds := evC ev0 .nils .nils) (by rfl) (by rfl) (by rfl) (by rfl) fun g4 bz oz x4 l4 => ?_
  have oe4 := oe3.e x4
  have ow4 := ow3.e x4
  have o4 := o3.ext x4 (by simp) (by simp)
  have rem : ∀ y z, aBin Try.prog .rem 3 y z (I x.c) (I 6) = some (I (x.c.tmod 6)) := fun y z => aBin_rem _ _ _ _ _ _ _ (by decide)
  have hmod : 0 ≤ x.c.tmod 6 ∧ x.c.tmod 6 < 6 := ⟨Int.tmod_nonneg _ (by omega), Int.tmod_lt_of_pos _ (by omega)⟩
  have w2 : IntKind.i64.wrap (x.c.tmod 6) = x.c.tmod 6 := wrap_id (by omega) (by omega)
  have w3 : IntKind.i64.wrap (x.c.tmod 6 + 1) = x.c.tmod 6 + 1 := wrap_id (by omega) (by omega)
  simp [J_precentorlaw16_HoldKeeps_1, t6, oe4.1, evC, rem, w3, bldR, fillR, splice]
  refine Tells.litW' (r := pairR) (xs := [(3, 1)]) (css := [[I 3, I 1]]) (by rfl) ⟨rfl, trivial⟩ (by rfl) (by rfl) (bsl1_agg (by rfl) (by rfl)) fun v5 g5 gl5 wr5 x5 => ?_
  have o5 := o4.ext x5 (by simp) (by simp)
  have ow5 := ow4.e x5
  simp [gl5.1.known, gl5.1.cells]
  refine Tells.newSt (ds := evC (firstE x) .nils v5) (by rfl) (by rfl) (by rfl) (by simp [evC, gl5.1.one]) fun g6 bt ot x6 l6 => ?_
  have o6 := o5.ext x6 (by simp) (by simp)
  have ow6 := ow5.e x6
  have ot1 := ot.1
  simp only [evC] at ot1
  have hle6 : h0.next ≤ g6.next := Nat.le_trans hle3 (Nat.le_trans x4.next (Nat.le_trans x5.next x6.next))
  simp [t8, ot1, firstE]
  refine Tells.bind (hold_Put hX o6 (Nat.le_trans hK hle6) hle6 (by simp) (x := firstE x) (va := .nils) (vs := v5) Sl.nil (gl5.1.ext x6) (by simp [firstE]) (by simp [firstE])) ?_
  rintro _ g7 ⟨rfl, ⟨vw7, o7⟩, e7, y7⟩
  have hheld : heldE [keptE x n] (firstE x) = false := by
    have : x.c ≠ x.c.tmod 6 + 1 := by
      rcases (show x.c = 1 ∨ x.c = 2 ∨ x.c = 3 ∨ x.c = 4 ∨ x.c = 5 ∨ x.c = 6 by omega) with q | q | q | q | q | q <;> rw [q] <;> decide
    simp [heldE, keptE, firstE, this]
  have hput : putE 3 [keptE x n] (firstE x) = (0, [keptE x n, firstE x]) := by simp [putE, hheld]
  rw [hput] at o7
  have hbt : bt ≠ b := by have := o5.ob.lt; omega
  have ow7 := ow6.ext e7 (by simpa using ⟨hbw, o6.ev.1.ob ow6⟩)
  have ot7 := ot.ext e7 (by simpa using ⟨hbt, o6.ev.1.ob ot⟩)
  simp [hput]
  exact keepsEnd hX hQ (by simp [t7]) (by simp [t8]) (by simp) o7 (Nat.le_trans hle6 e7.next) ow7 ((((oa3.ext x4).ext x5).ext x6).ext e7) ((((os3.ext x4).ext x5).ext x6).ext e7) ot7 hl hbw hbt

theorem keeps (hX : OnlyKnown X) (hk : X F_precentorlaw16_known [] = some (.bool true)) {h : Heap} {v1 : AVal} {xs1 : List Int} (r1 : RawInts h v1 xs1) (n : Int) (hn : In64 n) :
    Tells (fun m => acallX Try.prog X m F_precentorlaw16_HoldKeeps [v1, I n] h) fun a _ => a = .bool true := by
  refine R_precentorlaw16_HoldKeeps _ _ (hX _ _ rfl) ?_
  refine Tells.prot fun Q' hQ => ?_
  unfold S_precentorlaw16_HoldKeeps
  simp [bldR, fillR, splice, r1.sl.known, r1.sl.cells]
  refine Tells.box rfl rfl fun h1 bf of x1 l1 => ?_
  have f1 : Feed h1 bf 0 := RawInts.feed' (r1.ext x1) of
  try simp
  refine Tells.bind (EventH hX f1 (by omega)) ?_
  rintro _ h2 ⟨x, va, vs, rfl, fe, ga, wa, gs, ws, hd, x2, f2⟩
  refine Tells.newSt (ds := evC x va vs) (by rfl) (by rfl) (by rfl) (by simp [evC, ga.1.one, gs.1.one]) fun h3 be oe x3 l3 => ?_
  try simp
  refine Tells.litX (v := .sl h3.next 0 1 1 2 true) (h1 := h3.new false [I 3, I 2]) (bsl1_agg (by rfl) (by rfl)) ?_
  have x4 := Ext.new h3 false [I 3, I 2]
  have s4 : Sl pairR (h3.new false [I 3, I 2]) (.sl h3.next 0 1 1 2 true) [(3, 2)] := (Sl.lit (r := pairR) (xs := [(3, 2)]) (h0 := h3) (css := [[I 3, I 2]]) rfl ⟨rfl, trivial⟩ rfl rfl).1
  have c4 : (h3.new false [I 3, I 2]).cls h3.next = none := by rw [Heap.cls_new]; exact Heap.cls_ge (Nat.le_refl _)
  have n4 : h3.next < (h3.new false [I 3, I 2]).next := (s4.blk h3.next (by simp [AVal.blks])).2
  have w4 : Wr h3 (h3.new false [I 3, I 2]) (.sl h3.next 0 1 1 2 true) := fun c hc => by
    simp [AVal.blks] at hc
    subst hc
    refine ⟨?_, by rw [x4.n0]; exact n0_le h3, n4⟩
    unfold Heap.root
    rw [c4]
    exact Nat.le_refl _
  have vk : (AVal.sl h3.next 0 1 1 2 true).cells = [AVal.sl h3.next 0 1 1 2 true] := rfl
  have v1k : (AVal.sl h3.next 0 1 1 2 true).one = true := rfl
  have vb : ∀ c, c ∈ (AVal.sl h3.next 0 1 1 2 true).blks → c = h3.next := fun c hc => by simpa [AVal.blks] using hc
  generalize hv20 : AVal.sl h3.next 0 1 1 2 true = v20 at s4 w4 vk v1k vb
  generalize h3.new false [I 3, I 2] = h4 at x4 s4 c4 n4 w4
  have oe4 := oe.e x4
  try simp
  refine Tells.st1 oe4 vk v1k (by simp [evC]) fun h5 oe5 x5 => ?_
  have oe5 : Ob h5 be (evC x va v20) := oe5
  have ga5 := ((ga.e x3).e x4).ext x5 (fun c hc q => (((ga.e x3).e x4).1.ob oe4) (by rw [← List.mem_singleton.1 q]; exact hc))
  have wa5 := (((wa.ext x3).ext x4).ext x5)
  have hle5 : h1.next ≤ h5.next := Nat.le_trans x2.next (Nat.le_trans x3.next (Nat.le_trans x4.next x5.next))
  simp [oe5.1, evC]
  refine Tells.app1W ga5 wa5 (by rfl) (by rfl) (show attrR.rep h5 (attC (bs [122], ⟨1, n, 0, bs [], false⟩)) (bs [122], ⟨1, n, 0, bs [], false⟩) from rfl) (by rfl) (by rfl) (by have := fe.ats; omega) (by decide) hle5 fun v38 h6 g6 w6 x6 y6 z6 => ?_
  have oe6 := oe5.ext x6 (ga5.1.ob oe5)
  try simp
  refine Tells.st1 oe6 g6.1.cells g6.1.one (by simp [evC]) fun h7 oe7 x7 => ?_
  have oe7 : Ob h7 be (evC x v38 v20) := oe7
  have a7 := g6.1.ext x7
  have s7 := ((s4.ext x5).ext x6).ext x7
  simp [oe7.1, evC]
  refine Tells.newSt (ds := evC x v38 v20) (by rfl) (by rfl) (by rfl) (by simp [evC, a7.one, s7.one]) fun h8 bw ow x8 l8 => ?_
  have hew : be ≠ bw := by have := oe7.lt; omega
  have oe8 := oe7.e x8
  try simp
  refine Tells.litW' (r := attrR) (xs := ([] : List Att)) (css := []) (by rfl) trivial (by rfl) (by rfl) (bsl0 6 h8) fun v50 h9 g9 w9 x9 => ?_
  have oe9 := oe8.e x9
  have a9 := (a7.ext x8).ext x9
  simp [oe9.1, evC]
  refine Tells.appNW g9 w9 a9 (by rfl) (by have := fe.ats; simp; omega) (by decide) x9.next fun v56 h10 g10 w10 _ y10 z10 => ?_
  have x810 : Ext [] h8 h10 := y10 _ x9
  simp only [List.nil_append] at g10
  have oe10 := oe8.e x810
  have ow10 := ow.e x810
  try simp
  refine Tells.st1 ow10 g10.1.cells g10.1.one (by simp [evC]) fun h11 ow11 x11 => ?_
  have ow11 : Ob h11 bw (evC x v56 v20) := ow11
  have oe11 := oe10.ext x11 (by simpa using hew)
  try simp
  refine Tells.litW' (r := pairR) (xs := [(3, 2)]) (css := [[I 3, I 2]]) (by rfl) ⟨rfl, trivial⟩ (by rfl) (by rfl) (bsl1_agg (by rfl) (by rfl)) fun v64 h12 g12 w12 x12 => ?_
  have ow12 := ow11.e x12
  have oe12 := oe11.e x12
  try simp
  refine Tells.st1 ow12 g12.1.cells g12.1.one (by simp [evC]) fun h13 ow13 x13 => ?_
  have ow13 : Ob h13 bw (evC x v56 v64) := ow13
  have oe13 := oe12.ext x13 (by simpa using hew)
  try simp
  refine Tells.litW' (r := intR) (xs := [3]) (css := [[I 3]]) (by rfl) ⟨rfl, trivial⟩ (by rfl) (by rfl) (bsl1_int _ _ _ _) fun v70 h14 g14 w14 x14 => ?_
  try simp
  refine Tells.bind (hold_New hX 3 g14.1 (by simp) h7.next) ?_
  rintro _ h15 ⟨b, cv, rfl, o15, wc, x15, l15⟩
  have o15 : Hd h7.next h14 h15 b 3 [(3, 1)] [] cv .nils := o15
  try simp
  refine Tells.bind (known_X hk h15) ?_
  rintro _ h15 ⟨rfl, rfl⟩
  have oe15 := (oe13.e x14).e x15
  have ow15 := (ow13.e x14).e x15
  have x715 : Ext [be, bw] h7 h15 := ((((((x8.of.trans x810.of).trans (x11.mono (by simp))).trans x12.of).trans (x13.mono (by simp))).trans x14.of).trans x15.of)
  have pn := fun y z => ptr_nil (t := 36) Try.underlying36 y z b 0
  have a15 : Sl attrR h15 v38 (keptE x n).ats := a7.ext x715
  have s15 : Sl pairR h15 v20 [(3, 2)] := s7.ext x715
  have hK14 : h7.next ≤ h14.next := Nat.le_trans x8.next (Nat.le_trans x810.next (Nat.le_trans x11.next (Nat.le_trans x12.next (Nat.le_trans x13.next x14.next))))
  simp [pn, oe15.1, evC]
  refine Tells.bind (hold_Put hX o15 (Nat.le_trans hK14 x15.next) x15.next (by simp) (x := keptE x n) (va := v38) (vs := v20) a15 s15 (by have := fe.ats; simp [keptE]; omega) (by simp [keptE])) ?_
  rintro _ h16 ⟨rfl, ⟨vw, o16⟩, e16, y16⟩
  have hp : putE 3 [] (keptE x n) = (0, [keptE x n]) := rfl
  rw [hp] at o16
  have hbe : be ≠ b := by have := oe13.lt; have := x14.next; omega
  have hbw : bw ≠ b := by have := ow13.lt; have := x14.next; omega
  have oe16 := oe15.ext e16 (by simpa [AVal.blks] using hbe)
  have ow16 := ow15.ext e16 (by simpa [AVal.blks] using hbw)
  have x716 : Ext [be, bw, b] h7 h16 := (x715.mono (by simp)).trans (e16.mono (by simp [AVal.blks]))
  have x416 : Ext (be :: bw :: b :: va.blks) h4 h16 := (((x5.mono (by simp)).trans (x6.mono (by simp; intros; simp [*]))).trans (x7.mono (by simp))).trans (x716.mono (by simp))
  have x1016 : Ext [bw, b] h10 h16 := (((((x11.mono (by simp)).trans x12.of).trans (x13.mono (by simp))).trans x14.of).trans x15.of).trans (e16.mono (by simp [AVal.blks]))
  have x1216 : Ext [bw, b] h12 h16 := (((x13.mono (by simp)).trans x14.of).trans x15.of).trans (e16.mono (by simp [AVal.blks]))
  have x616 : Ext [be, bw, b] h6 h16 := (x7.mono (by simp)).trans x716
  simp [hp]
  refine keepsMid hX (fun g => hQ _ _ rfl) (K := h7.next) (n := n) (x := x) (by simp) (by simp) (by simp) (by simp) fe.c fe.ats o16 ((UpK.of wc hK14).ext e16) hK14 (Nat.le_trans x15.next e16.next) oe16 (a7.ext x716) (s7.ext x716) (fun c hc => ?_) (fun c hc => ?_) (fun c hc => ?_) ow16 (g10.1.ext x1016) (g12.1.ext x1216) ((UpK.of w10 x8.next).ext x1016) ((UpK.of w12 ?_).ext x1216) hbw hbe
  · have q := Wr.low w6 x616 c hc; have := x7.next; exact ⟨by omega, q.2⟩
  · have q := Wr.low w4 x416 c hc; have := x5.next; have := x6.next; have := x7.next; exact ⟨by omega, q.2⟩
  · intro c' hc'
    have := vb c' hc'
    subst this
    have h4c := x416.cls h3.next n4
    refine ⟨fun q => ?_, fun r hr => by rw [h4c, c4]; simp⟩
    rcases z6 c hc with q1 | q1
    · have := (wa c q1).2.2; have := x3.next; omega
    · have := x5.next; omega
  · exact Nat.le_trans x8.next (Nat.le_trans x810.next x11.next)
end
end Go.Proofs.Ytbpbdigehfkjjaa

/-! Law HoldOrder: events are put, and asked for. -/
namespace Go.Proofs.Ytbpbdigehfkjjaa
open Go.Ab

/-- A row of bools that is an object. -/
def boolC (f : Nat → Bool) (n : Nat) : List AVal := (List.range n).map fun x => .bool (f x)
theorem boolC_len (f : Nat → Bool) (n : Nat) : (boolC f n).length = n := by simp [boolC]
theorem boolC_at {f : Nat → Bool} {n x : Nat} (h : x < n) : (boolC f n)[x]? = some (.bool (f x)) := by simp [boolC, h]
theorem boolC_set {f g : Nat → Bool} {n z : Nat} {v : Bool} (hg : ∀ x, x < n → g x = if x = z then v else f x) : (boolC f n).set z (.bool v) = boolC g n := by
  apply List.ext_getElem?
  intro x
  rw [List.getElem?_set]
  by_cases hx : x < n
  · rw [boolC_at hx, boolC_at hx, hg x hx]
    by_cases e : x = z
    · subst e; simp [boolC_len, hx]
    · rw [if_neg (Ne.symm e), if_neg e]
  · have h1 : (boolC f n)[x]? = none := List.getElem?_eq_none (by rw [boolC_len]; omega)
    have h2 : (boolC g n)[x]? = none := List.getElem?_eq_none (by rw [boolC_len]; omega)
    rw [h1, h2]
    split
    · rename_i e; subst e; simp [boolC_len, hx]
    · rfl
theorem boolC_zeros (n : Nat) : zeros [.bool false] n = boolC (fun _ => false) n := by
  induction n with
  | zero => rfl
  | succ n ih =>
    show [.bool false] ++ zeros [.bool false] n = _
    rw [ih]
    simp only [boolC, List.range_succ_eq_map, List.map_cons, List.map_map]
    rfl

def seenF (al : List Ev) (i : Nat) (j : Nat) : Bool := (al.take i).any fun e => e.s == (j : Int)

/-- What stands between two puts. -/
structure OI (n i nx : Nat) (h0 g : Heap) (b bt : Nat) (es al : List Ev) (cl : List Slots) (v8 : AVal) : Prop where
  ho : ∃ W s cv vw, cl[nx - 1]? = some s ∧ Hd 0 h0 g b n s W cv vw ∧ OW al i nx W
  th : Ob g bt (boolC (seenF al i) (n + 2))
  al : Sl (evR 0) g v8 al
  nx : nx ≤ n + 1
  le : h0.next ≤ g.next
  ne : bt ≠ b

section
variable {X : XTab}
theorem ordInner (hX : OnlyKnown X) {n i nx : Nat} {h0 g : Heap} {b bt : Nat} {es al : List Ev} {cl : List Slots} {c0 c2 : Int} {v8 : AVal} {t : T} (G : Good es cl c0 c2) (A : AnyO es al) (hn : es.length = n) (hn2 : n ≤ 20) (hi : i ≤ n)
    (o : OI n i nx h0 g b bt es al cl v8) (t6 : t 6 = I n) (t8 : t 8 = v8) (t14 : t 14 = .ptr b 0) (t15 : t 15 = I nx) (t16 : t 16 = .sl bt 0 (n + 2) (n + 2) 1 true) (t17 : t 17 = I ((i : Int) - 1)) :
    Tells (fun m => loopN (L_precentorlaw16_HoldOrder_8 Try.prog (acallX Try.prog X m) m) m t g) fun p g' => p.1 = .exit 8 ∧ p.2 6 = I n ∧ p.2 8 = v8 ∧ p.2 14 = .ptr b 0 ∧ p.2 16 = .sl bt 0 (n + 2) (n + 2) 1 true ∧ p.2 17 = I ((i : Int) - 1) ∧
      ∃ nx' : Nat, p.2 15 = I nx' ∧ OI n i nx' h0 g' b bt es al cl v8 ∧ ∀ e, e ∈ al.take i → e.s ≠ (nx' : Int) := by
  obtain ⟨⟨W0, s0, cv0, vw0, hs0, hd0, ow0⟩, th0, al0, nx0, le0, ne⟩ := o
  refine Tells.loop (fun m' t' g' => ∃ (nx : Nat) (W : List Ev) (s : Slots) (cv vw : AVal), t' 6 = I n ∧ t' 8 = v8 ∧ t' 14 = .ptr b 0 ∧ t' 15 = I nx ∧ t' 16 = .sl bt 0 (n + 2) (n + 2) 1 true ∧ t' 17 = I ((i : Int) - 1) ∧ m' = W.length ∧
    cl[nx - 1]? = some s ∧ Hd 0 h0 g' b n s W cv vw ∧ OW al i nx W ∧ Ob g' bt (boolC (seenF al i) (n + 2)) ∧ Sl (evR 0) g' v8 al ∧ nx ≤ n + 1 ∧ h0.next ≤ g'.next) ?_ W0.length _ _ ?_
  · rintro m' t' g' ⟨nx, W, s, cv, vw, k6, k8, k14, k15, k16, k17, rfl, hs, hd, ow, th, ha, hnx, hle⟩
    refine Tells.prot fun Q2 hQ2 => ?_
    have hn1 := ow.n1
    have hwl := ow.wl
    obtain ⟨sx, sz, rfl, b1, b2, b3, b4⟩ := G.mid (nx - 1) s hs
    have enx : ((nx - 1 : Nat) : Int) + 1 = nx := by omega
    rw [enx] at hs hd
    have mem : ∀ e, e ∈ W → ∃ k : Nat, es[k]? = some e ∧ e.s = (k : Int) + 1 ∧ e.sts.length ≤ 4 := fun e he => by
      have h1 : e ∈ al := List.mem_of_mem_take (ow.w1 e he).1
      obtain ⟨k, hk⟩ := List.mem_iff_getElem?.1 (A.perm.mem_iff.1 h1)
      have := G.ev k e hk
      exact ⟨k, hk, this.2.1, this.2.2.2.1⟩
    have sm : Small (cl3 sx nx sz) (2 ^ 60) := by
      intro x hx
      simp [cl3] at hx
      rcases hx with rfl | rfl | rfl <;> simp <;> omega
    have ix : ixsR 1 (.sl bt 0 (n + 2) (n + 2) 1 true) (.int .i64 (nx : Int)) = some (.ptr bt nx) := by
      have := ixs_made (b := bt) (k := n + 2) (c := n + 2) (z := 1) (i := nx) (by omega)
      rwa [Nat.mul_one] at this
    unfold L_precentorlaw16_HoldOrder_8
    simp [k14]
    refine Tells.bind (hold_Next hX hd hle (by omega) (by simp [cl3]) (fun e he => by obtain ⟨k, _, _, h⟩ := mem e he; omega) sm) ?_
    rintro _ g1 ⟨e1, -, h1⟩
    have th1 := th.ext e1 (by simpa using ⟨ne, hd.ev.1.ob th⟩)
    have ha1 := ha.ext e1
    have hle1 := Nat.le_trans hle e1.next
    rcases h1 with ⟨hno, rfl, hd1⟩ | ⟨j, x, va, vs, hj, hx, rfl, oa1, os1, cv1, vw1, hd1⟩
    · have hT : seenF al i nx = false := by
        unfold seenF
        rw [List.any_eq_false]
        intro e he hq
        have hq : e.s = (nx : Int) := by simpa using hq
        have hW := ow.w2 e he (by omega)
        obtain ⟨k, hk, hks, _⟩ := mem e hW
        have hkl := (List.getElem?_eq_some_iff.1 hk).1
        have hkn : k = nx - 1 := by omega
        subst hkn
        obtain ⟨s', hs'⟩ : ∃ s', cl[nx - 1 + 1]? = some s' := ⟨_, List.getElem?_eq_getElem (by rw [G.len]; omega)⟩
        have := (G.nx _ e _ _ hk hs hs').1
        rw [dueI_none hno e hW] at this
        cases this
      simp [extR]
      refine Tells.newSt (ds := evC ev0 .nils .nils) (by rfl) (by rfl) (by rfl) (by rfl) fun g2 bx ox x2 l2 => ?_
      have th2 := th1.e x2
      simp [k15, k16, ix, th2.1, boolC_at (f := seenF al i) (show nx < n + 2 by omega), hT, Try.underlying4, J_precentorlaw16_HoldOrder_9]
      refine Tells.ok (hQ2 _ _ (.inr ⟨by simp, by simp, by simp [k6], by simp [k8], by simp [k14], by simp [k16], by simp [k17], nx, by simp [k15], ⟨⟨W, _, cv, vw, hs, hd1.ext x2 (by simp) (by simp), ow⟩, th2, ha1.ext x2, hnx, Nat.le_trans hle1 x2.next, ne⟩, fun e he hq => ?_⟩))
      have := List.any_eq_false.1 hT e he
      simp [hq] at this
    · have hm := List.mem_of_getElem? hx
      obtain ⟨k, hk, hks, hk4⟩ := mem x hm
      have hdue := dueI_due hj hx
      have hxs : x.s = (nx : Int) := by
        by_cases q : (nx : Int) = (k : Int) + 1
        · omega
        · have := (G.ev k x hk).2.2.2.2 sx nx sz q
          rw [this] at hdue
          cases hdue
      have hkl := (List.getElem?_eq_some_iff.1 hk).1
      have hkn : k = nx - 1 := by omega
      subst hkn
      have hT : seenF al i nx = true := by
        unfold seenF
        rw [List.any_eq_true]
        exact ⟨x, (ow.w1 x hm).1, by simp [hxs]⟩
      obtain ⟨s', hs'⟩ : ∃ s', cl[nx - 1 + 1]? = some s' := ⟨_, List.getElem?_eq_getElem (by rw [G.len]; omega)⟩
      have htk := (G.nx _ x _ _ hk hs hs').2
      rw [htk] at hd1
      have hjl := dueI_lt hj
      have w : IntKind.i64.wrap ((nx : Int) + 1) = nx + 1 := wrap_id (by omega) (by omega)
      simp [extR]
      refine Tells.newSt (ds := evC x va vs) (by rfl) (by rfl) (by rfl) (by simp [evC, oa1.one, os1.one]) fun g2 bx ox x2 l2 => ?_
      have th2 := th1.e x2
      have ox' := ox.1
      simp only [evC] at ox'
      simp [k15, k16, ix, th2.1, boolC_at (f := seenF al i) (show nx < n + 2 by omega), hT, Try.underlying4, ox', hxs, J_precentorlaw16_HoldOrder_9, J_precentorlaw16_HoldOrder_10, w]
      exact Tells.ok (hQ2 _ _ (.inl ⟨rfl, (W.take j ++ W.drop (j + 1)).length, by simp; omega, nx + 1, W.take j ++ W.drop (j + 1), s', cv1, vw1, by simp [k6], by simp [k8], by simp [k14], by simp, by simp [k16], by simp [k17], rfl, by rw [← hs']; congr 1; omega, hd1.ext x2 (by simp) (by simp), ow.next A hx hxs, th2, ha1.ext x2, by omega, Nat.le_trans hle1 x2.next⟩))
  · exact ⟨nx, W0, s0, cv0, vw0, t6, t8, t14, t15, t16, t17, rfl, hs0, hd0, ow0, th0, al0, nx0, le0⟩
end
end Go.Proofs.Ytbpbdigehfkjjaa

/-! Law HoldOrder: all are put. -/
namespace Go.Proofs.Ytbpbdigehfkjjaa
open Go.Ab
section
variable {X : XTab}
theorem ordPuts (hX : OnlyKnown X) {Q' : AVal → Heap → Prop} (hQ : ∀ h, Q' (.bool true) h) {n : Nat} {h0 g : Heap} {b : Nat} {es al : List Ev} {cl : List Slots} {c0 c2 : Int} {v8 cv : AVal} {t : T} (G : Good es cl c0 c2) (A : AnyO es al) (hn : es.length = n) (hn2 : n ≤ 20)
    (hd : Hd 0 h0 g b n (cl3 1 1 1) [] cv .nils) (ha : Sl (evR 0) g v8 al) (hle : h0.next ≤ g.next) (t6 : t 6 = I n) (t8 : t 8 = v8) (t14 : t 14 = .ptr b 0) :
    Tells (fun m => J_precentorlaw16_HoldOrder_2 Try.prog (acallX Try.prog X m) m (retK Try.prog [.tmp 4]) t g) Q' := by
  have hal : al.length = n := by rw [A.perm.length_eq, hn]
  have w0 : IntKind.i64.wrap ((n : Int) + 2) = ((n + 2 : Nat) : Int) := by rw [wrap_id (by omega) (by omega)]; omega
  have w0' : IntKind.i64.wrap ((n : Int) + 1) = (n : Int) + 1 := wrap_id (by omega) (by omega)
  have mem : ∀ e, e ∈ al → ∃ k : Nat, es[k]? = some e ∧ e.s = (k : Int) + 1 ∧ e.sts.length ≤ 4 ∧ e.ats = [] := fun e he => by
    obtain ⟨k, hk⟩ := List.mem_iff_getElem?.1 (A.perm.mem_iff.1 he)
    have := G.ev k e hk
    exact ⟨k, hk, this.2.1, this.2.2.2.1, this.2.2.1⟩
  unfold J_precentorlaw16_HoldOrder_2
  simp only [arb_val, of_some, t6, lt_eq]
  simp only [aBin_add, w0, arb_val, of_some]
  refine Tells.mak (by rfl) (by omega) (by decide) (boolC_zeros (n + 2)) fun g1 bt lbt oth x1 => ?_
  have hbt : bt ≠ b := by have := hd.ob.lt; omega
  try simp
  refine Tells.bind (Tells.loop (fun m' t' g' => ∃ i nx : Nat, t' 6 = I n ∧ t' 8 = v8 ∧ t' 14 = .ptr b 0 ∧ t' 15 = I nx ∧ t' 16 = .sl bt 0 (n + 2) (n + 2) 1 true ∧ t' 17 = I i ∧ i + m' = n ∧ OI n i nx h0 g' b bt es al cl v8 ∧ ∀ e, e ∈ al.take i → e.s ≠ (nx : Int))
    (Q := fun p g' => p.1 = .exit 6 ∧ p.2 6 = I n ∧ p.2 14 = .ptr b 0 ∧ ∃ nx : Nat, p.2 15 = I nx ∧ OI n n nx h0 g' b bt es al cl v8 ∧ ∀ e, e ∈ al.take n → e.s ≠ (nx : Int)) ?_ n _ _ ?_) ?_
  · rintro m' t' g' ⟨i, nx, k6, k8, k14, k15, k16, k17, hi, o, hx0⟩
    refine Tells.prot fun Q2 hQ2 => ?_
    unfold L_precentorlaw16_HoldOrder_4
    simp [k6, k17]
    refine Tells.cb (fun hc => ?_) (fun hc => ?_)
    · simp at hc
      obtain ⟨⟨W, s, cv1, vw1, hs, hd1, ow⟩, th, ha1, hnx, hle1, hne⟩ := o
      have hwl := ow.wl
      have hn1 := ow.n1
      obtain ⟨x, hx⟩ : ∃ x, al[i]? = some x := ⟨_, List.getElem?_eq_getElem (by omega)⟩
      obtain ⟨k, hk, hks, hk4, hka⟩ := mem x (List.mem_of_getElem? hx)
      have hkl := (List.getElem?_eq_some_iff.1 hk).1
      obtain ⟨b1, p1, B1, va, vs, q1, q2, q3, q4, oa, os, ua, us, -⟩ := ev_at ha1 hx
      have w : IntKind.i64.wrap ((i : Int) + 1) = i + 1 := wrap_id (by omega) (by omega)
      simp [J_precentorlaw16_HoldOrder_5, k8, k14, k17, q1, q2, q3, q4]
      refine Tells.bind (hold_Put hX hd1 (Nat.zero_le _) hle1 (by omega) (x := x) (va := va) (vs := vs) oa os (by rw [hka]; simp) (by omega)) ?_
      rintro _ g2 ⟨rfl, ⟨vw2, hd2⟩, e2, -⟩
      have hp : putE n W x = (0, W ++ [x]) := by
        unfold putE
        rw [ow.held A hx, if_neg (by simp), if_neg (by omega)]
      rw [hp] at hd2
      have th2 := th.ext e2 (by simpa using ⟨hne, hd1.ev.1.ob th⟩)
      have ha2 := ha1.ext e2
      obtain ⟨b3, p3, B3, va3, vs3, r1, r2, r3, r4, -, -, -, -, r5, r6, r7, r8⟩ := ev_at ha2 hx
      have hks' : x.s = ((k + 1 : Nat) : Int) := by omega
      have ix : ixsR 1 (.sl bt 0 (n + 2) (n + 2) 1 true) (.int .i64 ((k : Int) + 1)) = some (.ptr bt (k + 1)) := by
        have := ixs_made (b := bt) (k := n + 2) (c := n + 2) (z := 1) (i := k + 1) (by omega)
        rwa [Nat.mul_one] at this
      simp [hp, J_precentorlaw16_HoldOrder_7, k8, k16, k17, r1, r2, r6, hks, ix]
      refine Tells.st1 th2 (by rfl) (by rfl) (by rw [boolC_len]; omega) fun g3 th3 x3 => ?_
      have hset : (boolC (seenF al i) (n + 2)).set (k + 1) (.bool true) = boolC (seenF al (i + 1)) (n + 2) := boolC_set fun j hj => by
        unfold seenF
        rw [List.take_add_one, hx]
        simp only [Option.toList, List.any_append, List.any_cons, List.any_nil, Bool.or_false]
        by_cases q : j = k + 1
        · subst q
          simp [hks]
        · have : (x.s == (j : Int)) = false := beq_eq_false_iff_ne.2 (by omega)
          rw [this, if_neg q, Bool.or_false]
      rw [hset] at th3
      have hd3 := hd2.ext x3 (by simpa using hne.symm) (by simpa using .inl th2.2.1)
      try simp
      refine Tells.bind (ordInner hX (i := i + 1) (nx := nx) G A hn hn2 (by omega) ⟨⟨W ++ [x], s, cv1, vw2, hs, hd3, ow.put A hx⟩, th3, ha2.ext x3, hnx, Nat.le_trans hle1 (Nat.le_trans e2.next x3.next), hne⟩ (by simp [k6]) (by simp [k8]) (by simp [k14]) (by simp [k15]) (by simp [k16]) (by simp [k17])) ?_
      rintro ⟨ex, t2⟩ g4 ⟨rfl, j6, j8, j14, j16, j17, nx', j15, o4, hx4⟩
      simp only at j6 j8 j14 j15 j16 j17
      have j17 : t2 17 = I i := by rw [j17]; congr 1; omega
      simp [J_precentorlaw16_HoldOrder_6, j17, w]
      exact Tells.ok (hQ2 _ _ (.inl ⟨rfl, m' - 1, by omega, i + 1, nx', by simp [j6], by simp [j8], by simp [j14], by simp [j15], by simp [j16], by simp, by omega, o4, hx4⟩))
    · simp at hc
      have : i = n := by omega
      subst this
      exact Tells.ok (hQ2 _ _ (.inr ⟨by simp, rfl, by simp [k6], by simp [k14], nx, by simp [k15], o, hx0⟩))
  · refine ⟨0, 1, by simp [t6], by simp [t8], by simp [t14], by simp, by simp, by simp, by omega, ⟨⟨[], cl3 1 1 1, cv, .nils, G.fst, hd.ext x1 (by simp) (by simp), OW.nil fun e he => by obtain ⟨k, _, h, _⟩ := mem e he; omega⟩, ?_, ha.ext x1, by omega, Nat.le_trans hle x1.next, hbt⟩, by simp⟩
    have : seenF al 0 = fun _ => false := by funext j; simp [seenF]
    rw [this]
    exact oth
  · rintro ⟨ex, t'⟩ g' ⟨rfl, k6, k14, nx, k15, ⟨⟨W, s, cv1, vw1, hs, hd1, ow⟩, th, ha1, hnx, hle1, hne⟩, hx0⟩
    simp only at k6 k14 k15
    have hn1 := ow.n1
    have hwl := ow.wl
    have hnn : nx = n + 1 := by
      rcases Nat.lt_or_ge n nx with q | q
      · omega
      · obtain ⟨e, he⟩ : ∃ e, es[nx - 1]? = some e := ⟨_, List.getElem?_eq_getElem (by omega)⟩
        have h1 := (G.ev _ e he).2.1
        have h2 : e ∈ al := A.perm.mem_iff.2 (List.mem_of_getElem? he)
        have h3 := hx0 e (by rw [List.take_of_length_le (by omega)]; exact h2)
        omega
    subst hnn
    have hW : W.length = 0 := by omega
    simp [J_precentorlaw16_HoldOrder_3, k6, k14, k15, w0']
    refine Tells.bind (hold_Len hX hd1) ?_
    rintro _ g' ⟨rfl, rfl⟩
    simp [hW]
    exact Tells.ok (hQ _)
end
end Go.Proofs.Ytbpbdigehfkjjaa

/-! Law HoldOrder: the events are made. -/
namespace Go.Proofs.Ytbpbdigehfkjjaa
open Go.Ab

/-- Counts and stamps, a places done. -/
def PS (c0 c1 c2 : Int) (a : Nat) (cf : Nat → Int) (l : List (Int × Int)) : Prop :=
  (a = 0 ∧ cf 0 = c0 ∧ cf 1 = c1 ∧ cf 2 = c2 ∧ l = []) ∨
  (∃ b0 : Bool, a = 1 ∧ cf 0 = c0 + (if b0 = true then 1 else 0) ∧ cf 1 = c1 ∧ cf 2 = c2 ∧ l = if b0 = true then [(0, c0 + 1)] else []) ∨
  (∃ b0 : Bool, a = 2 ∧ cf 0 = c0 + (if b0 = true then 1 else 0) ∧ cf 1 = c1 + 1 ∧ cf 2 = c2 ∧ l = (if b0 = true then [(0, c0 + 1)] else []) ++ [(1, c1 + 1)]) ∨
  (∃ b0 b2 : Bool, a = 3 ∧ cf 0 = c0 + (if b0 = true then 1 else 0) ∧ cf 1 = c1 + 1 ∧ cf 2 = c2 + (if b2 = true then 1 else 0) ∧ l = (if b0 = true then [(0, c0 + 1)] else []) ++ [(1, c1 + 1)] ++ (if b2 = true then [(2, c2 + 1)] else []))
theorem PS.come {c0 c1 c2 : Int} {a : Nat} {cf : Nat → Int} {l : List (Int × Int)} (p : PS c0 c1 c2 a cf l) (ha : a < 3) : PS c0 c1 c2 (a + 1) (fun x => if x = a then cf a + 1 else cf x) (l ++ [((a : Int), cf a + 1)]) := by
  rcases p with ⟨rfl, h0, h1, h2, rfl⟩ | ⟨b0, rfl, h0, h1, h2, rfl⟩ | ⟨b0, rfl, h0, h1, h2, rfl⟩ | ⟨b0, b2, rfl, _⟩
  · exact .inr (.inl ⟨true, rfl, by simp [h0], by simp [h1], by simp [h2], by simp [h0]⟩)
  · exact .inr (.inr (.inl ⟨b0, rfl, by simp [h0], by simp [h1], by simp [h2], by simp [h1]⟩))
  · exact .inr (.inr (.inr ⟨b0, true, rfl, by simp [h0], by simp [h1], by simp [h2], by simp [h2]⟩))
  · omega
theorem PS.not {c0 c1 c2 : Int} {a : Nat} {cf : Nat → Int} {l : List (Int × Int)} (p : PS c0 c1 c2 a cf l) (ha : a < 3) (h1' : a ≠ 1) : PS c0 c1 c2 (a + 1) cf l := by
  rcases p with ⟨rfl, h0, h1, h2, rfl⟩ | ⟨b0, rfl, h0, h1, h2, rfl⟩ | ⟨b0, rfl, h0, h1, h2, rfl⟩ | ⟨b0, b2, rfl, _⟩
  · exact .inr (.inl ⟨false, rfl, by simp [h0], h1, h2, by simp⟩)
  · exact absurd rfl h1'
  · exact .inr (.inr (.inr ⟨b0, false, rfl, h0, h1, by simp [h2], by simp⟩))
  · omega
theorem PS.fin {c0 c1 c2 : Int} {cf : Nat → Int} {l : List (Int × Int)} (p : PS c0 c1 c2 3 cf l) (m : Int) : ∃ b0 b2 : Bool, cf 0 = c0 + (if b0 = true then 1 else 0) ∧ cf 1 = c1 + 1 ∧ cf 2 = c2 + (if b2 = true then 1 else 0) ∧ l ++ [(5, m)] = stsO c0 c1 c2 b0 b2 m := by
  rcases p with ⟨h, _⟩ | ⟨b0, h, _⟩ | ⟨b0, h, _⟩ | ⟨b0, b2, _, h0, h1, h2, rfl⟩
  · omega
  · omega
  · omega
  · exact ⟨b0, b2, h0, h1, h2, rfl⟩
theorem PS.len {c0 c1 c2 : Int} {a : Nat} {cf : Nat → Int} {l : List (Int × Int)} (p : PS c0 c1 c2 a cf l) : l.length ≤ 3 := by
  rcases p with ⟨_, _, _, _, rfl⟩ | ⟨b0, _, _, _, _, rfl⟩ | ⟨b0, _, _, _, _, rfl⟩ | ⟨b0, b2, _, _, _, _, rfl⟩
  · simp
  · cases b0 <;> simp
  · cases b0 <;> simp
  · cases b0 <;> cases b2 <;> simp
theorem PS.bd {c0 c1 c2 : Int} {a : Nat} {cf : Nat → Int} {l : List (Int × Int)} (p : PS c0 c1 c2 a cf l) {B : Int} (h0 : 0 ≤ c0 ∧ c0 ≤ B) (h1 : 0 ≤ c1 ∧ c1 ≤ B) (h2 : 0 ≤ c2 ∧ c2 ≤ B) {x : Nat} (hx : x < 3) : 0 ≤ cf x ∧ cf x ≤ B + 1 := by
  have w : ∀ b : Bool, (0 : Int) ≤ (if b = true then 1 else 0) ∧ (if b = true then (1 : Int) else 0) ≤ 1 := fun b => by split <;> omega
  have hx3 : x = 0 ∨ x = 1 ∨ x = 2 := by omega
  rcases p with ⟨_, q0, q1, q2, _⟩ | ⟨b0, _, q0, q1, q2, _⟩ | ⟨b0, _, q0, q1, q2, _⟩ | ⟨b0, b2, _, q0, q1, q2, _⟩
  · rcases hx3 with rfl | rfl | rfl <;> omega
  · have := w b0; rcases hx3 with rfl | rfl | rfl <;> omega
  · have := w b0; rcases hx3 with rfl | rfl | rfl <;> omega
  · have := w b0; have := w b2; rcases hx3 with rfl | rfl | rfl <;> omega

section
variable {X : XTab}
theorem ordStamps (hX : OnlyKnown X) {t : T} {hE g0 : Heap} {bf bc be K : Nat} {c0 c1 c2 : Int} {e0 : Ev} {t1 t6 t8 t9 : AVal} (hK : K + 8 < 2 ^ 60) (k0 : 0 ≤ c0 ∧ c0 ≤ 100) (k1 : 0 ≤ c1 ∧ c1 ≤ 100) (k2 : 0 ≤ c2 ∧ c2 ≤ 100)
    (e1 : t 1 = t1) (e5 : t 5 = .ptr bf 0) (e6 : t 6 = t6) (e7 : t 7 = .ptr bc 0) (e8 : t 8 = t8) (e9 : t 9 = t9) (e10 : t 10 = .ptr be 0) (e11 : t 11 = I 0)
    (f : Feed g0 bf K) (oc : Ob g0 bc [I c0, I c1, I c2]) (oe : Ob g0 be (evC e0 .nils .nils)) (hx : Ext [bf] hE g0) (n1 : bf ≠ bc) (n2 : bf ≠ be) (n3 : bc ≠ be) (hbe : hE.next ≤ be) :
    Tells (fun m => loopN (L_precentorlaw16_HoldOrder_18 Try.prog (acallX Try.prog X m) m) m t g0) fun p g => p.1 = .exit 2 ∧ p.2 1 = t1 ∧ p.2 5 = .ptr bf 0 ∧ p.2 6 = t6 ∧ p.2 7 = .ptr bc 0 ∧ p.2 8 = t8 ∧ p.2 9 = t9 ∧ p.2 10 = .ptr be 0 ∧
      ∃ cf l vs, PS c0 c1 c2 3 cf l ∧ Feed g bf (K + 3) ∧ Ob g bc (fnC cf 3) ∧ Ob g be (evC e0 .nils vs) ∧ Gl pairR hE g vs l ∧ Wr hE g vs ∧ Ext [bf, bc] hE g := by
  refine Tells.loop (fun n t' g => ∃ (a : Nat) (cf : Nat → Int) (l : List (Int × Int)) (vs : AVal), t' 1 = t1 ∧ t' 5 = .ptr bf 0 ∧ t' 6 = t6 ∧ t' 7 = .ptr bc 0 ∧ t' 8 = t8 ∧ t' 9 = t9 ∧ t' 10 = .ptr be 0 ∧ t' 11 = I a ∧ a + n = 3 ∧
    PS c0 c1 c2 a cf l ∧ Feed g bf (K + a) ∧ Ob g bc (fnC cf 3) ∧ Ob g be (evC e0 .nils vs) ∧ Gl pairR hE g vs l ∧ Wr hE g vs ∧ Ext [bf, bc] hE g) ?_ 3 _ _ ?_
  · rintro n t' g ⟨a, cf, l, vs, e1, e5, e6, e7, e8, e9, e10, e11, hi, ps, f, oc, oe, gs, ws, x⟩
    refine Tells.prot fun Q2 hQ2 => ?_
    unfold L_precentorlaw16_HoldOrder_18
    by_cases ha : a < 3
    · have w : IntKind.i64.wrap ((a : Int) + 1) = a + 1 := wrap_id (by omega) (by omega)
      have bd := ps.bd k0 k1 k2 ha
      have wc : IntKind.i64.wrap (cf a + 1) = cf a + 1 := wrap_id (by omega) (by omega)
      have hp := ixp_at (len := 3) (z := 1) (b := bc) (o := 0) ha
      rw [Nat.mul_one, Nat.zero_add] at hp
      have ll := ps.len
      by_cases h1 : a = 1
      · have h1' : ((a : Int) == 1) = true := by simp [h1]
        simp [e11, show (a : Int) < 3 by omega, J_precentorlaw16_HoldOrder_19, h1', e7, hp, oc.1, fnC_at ha, wc]
        refine Tells.st1 oc (by rfl) (by rfl) (by rw [fnC_len]; omega) fun g3 oc3 x3 => ?_
        rw [fnC_set (g := fun x => if x = a then cf a + 1 else cf x) (fun x _ => rfl)] at oc3
        have oe3 := oe.ext x3 (by simpa using n3.symm)
        have f3 := f.ext x3 (by simpa using n1)
        simp [e10, e11, e7, hp, oe3.1, evC, oc3.1, fnC_at (f := fun x => if x = a then cf a + 1 else cf x) ha, bldR, fillR, splice]
        have gs3 := gs.extO x3 (by simpa using .inl oc.2.1)
        refine Tells.app1WE gs3 (ws.ext x3) (by rfl) (by rfl) (show pairR.rep g3 [I a, I (cf a + 1)] ((a : Int), cf a + 1) from rfl) (by rfl) (by rfl) (by omega) (by decide) (Nat.le_trans x.next x3.next) fun v4 g4 gl4 w4 x4 y4 z4 => ?_
        have oe4 := oe3.ext x4 (gs3.1.ob oe3)
        have oc4 := oc3.ext x4 (gs3.1.ob oc3)
        have f4 := f3.ext x4 (f3.out gs3.1)
        try simp [e10]
        refine Tells.st1E oe4 gl4.1.cells gl4.1.one (by simp [evC]) fun g5 oe5 x5 => ?_
        have oe5 : Ob g5 be (evC e0 .nils v4) := oe5
        have oc5 := oc4.ext x5 (by simpa using n3)
        have f5 := f4.ext x5 (by simpa using n2)
        have gl5 := gl4.extO x5 (by simpa using .inl oe4.2.1)
        have X3 : Ext [bf, bc] hE g3 := x.trans (x3.mono (by simp))
        have X5 : Ext [bf, bc] hE g5 := (y4 _ X3).then x5 fun z hz => .inr (by simp at hz; omega)
        simp [J_precentorlaw16_HoldOrder_20, e11, w]
        exact Tells.ok (hQ2 _ _ (.inl ⟨rfl, n - 1, by omega, a + 1, _, _, v4, by simp [e1], by simp [e5], by simp [e6], by simp [e7], by simp [e8], by simp [e9], by simp [e10], by simp, by omega, ps.come ha, f5.mono (by omega), oc5, oe5, gl5, w4.ext x5, X5⟩))
      · have h1' : ((a : Int) == 1) = false := beq_eq_false_iff_ne.2 (by omega)
        simp [e11, show (a : Int) < 3 by omega, J_precentorlaw16_HoldOrder_19, h1', e5]
        refine Tells.bind (Next hX 2 ⟨by decide, by decide⟩ f (by omega)) ?_
        rintro _ g2 ⟨r, rfl, r0, r1, _, x2, f2⟩
        have oc2 := oc.ext x2 (by simpa using n1.symm)
        have oe2 := oe.ext x2 (by simpa using n2.symm)
        have gs2 := gs.extO x2 (by simpa using .inl f.m)
        have ws2 := ws.ext x2
        have X2 : Ext [bf, bc] hE g2 := x.trans (x2.mono (by simp))
        by_cases hr : r = 1
        · simp [hr, e11, e7, hp, oc2.1, fnC_at ha, wc]
          refine Tells.st1 oc2 (by rfl) (by rfl) (by rw [fnC_len]; omega) fun g3 oc3 x3 => ?_
          rw [fnC_set (g := fun x => if x = a then cf a + 1 else cf x) (fun x _ => rfl)] at oc3
          have oe3 := oe2.ext x3 (by simpa using n3.symm)
          have f3 := f2.ext x3 (by simpa using n1)
          simp [e10, e11, e7, hp, oe3.1, evC, oc3.1, fnC_at (f := fun x => if x = a then cf a + 1 else cf x) ha, bldR, fillR, splice]
          have gs3 := gs2.extO x3 (by simpa using .inl oc2.2.1)
          refine Tells.app1WE gs3 (ws2.ext x3) (by rfl) (by rfl) (show pairR.rep g3 [I a, I (cf a + 1)] ((a : Int), cf a + 1) from rfl) (by rfl) (by rfl) (by omega) (by decide) (Nat.le_trans X2.next x3.next) fun v4 g4 gl4 w4 x4 y4 z4 => ?_
          have oe4 := oe3.ext x4 (gs3.1.ob oe3)
          have oc4 := oc3.ext x4 (gs3.1.ob oc3)
          have f4 := f3.ext x4 (f3.out gs3.1)
          try simp [e10]
          refine Tells.st1E oe4 gl4.1.cells gl4.1.one (by simp [evC]) fun g5 oe5 x5 => ?_
          have oe5 : Ob g5 be (evC e0 .nils v4) := oe5
          have oc5 := oc4.ext x5 (by simpa using n3)
          have f5 := f4.ext x5 (by simpa using n2)
          have gl5 := gl4.extO x5 (by simpa using .inl oe4.2.1)
          have X3 : Ext [bf, bc] hE g3 := X2.trans (x3.mono (by simp))
          have X5 : Ext [bf, bc] hE g5 := (y4 _ X3).then x5 fun z hz => .inr (by simp at hz; omega)
          simp [J_precentorlaw16_HoldOrder_20, e11, w]
          exact Tells.ok (hQ2 _ _ (.inl ⟨rfl, n - 1, by omega, a + 1, _, _, v4, by simp [e1], by simp [e5], by simp [e6], by simp [e7], by simp [e8], by simp [e9], by simp [e10], by simp, by omega, ps.come ha, f5.mono (by omega), oc5, oe5, gl5, w4.ext x5, X5⟩))
        · have hr' : (r == 1) = false := beq_eq_false_iff_ne.2 hr
          simp [hr', J_precentorlaw16_HoldOrder_20, e11, w]
          exact Tells.ok (hQ2 _ _ (.inl ⟨rfl, n - 1, by omega, a + 1, cf, l, vs, by simp [e1], by simp [e5], by simp [e6], by simp [e7], by simp [e8], by simp [e9], by simp [e10], by simp, by omega, ps.not ha h1, f2.mono (by omega), oc2, oe2, gs2, ws2, X2⟩))
    · have : a = 3 := by omega
      subst this
      simp [e11]
      exact Tells.ok (hQ2 _ _ (.inr ⟨by simp, rfl, by simp [e1], by simp [e5], by simp [e6], by simp [e7], by simp [e8], by simp [e9], by simp [e10], cf, l, vs, ps, f, oc, oe, gs, ws, x⟩))
  · refine ⟨0, fun x => if x = 0 then c0 else if x = 1 then c1 else c2, [], .nils, e1, e5, e6, e7, e8, e9, e10, by simpa using e11, rfl, .inl ⟨rfl, rfl, rfl, rfl, rfl⟩, f, oc, oe, Gl.nil, fun b hb => by simp [AVal.blks] at hb, hx.mono (by simp)⟩
end
end Go.Proofs.Ytbpbdigehfkjjaa

/-! Law HoldOrder: the events in another order. -/
namespace Go.Proofs.Ytbpbdigehfkjjaa
open Go.Ab

/-- Elements as their cells. -/
def rawR : Rp (List AVal) := ⟨7, by decide, fun _ cs x => cs = x ∧ x.length = 7 ∧ x.all AVal.one = true, fun h => by rw [h.1]; exact h.2.1, fun h => by rw [h.1]; exact h.2.2, fun h _ => h⟩
theorem raw_flat {h h' : Heap} {cs : List AVal} {x : List AVal} : rawR.rep h cs x → rawR.rep h' cs x := fun q => q
theorem setC {h : Heap} {z : Nat} (h0 : h.n0 ≤ z) (h1 : z < h.next) (x : Option (List AVal)) : ExtC z h (h.setB z x) :=
  ⟨rfl, rfl, fun c hc _ => by rw [Heap.get_setB' h h0 h1, if_neg hc], fun _ => rfl, fun _ => rfl, fun _ => rfl, fun _ _ _ => rfl⟩
@[simp] theorem setIf_true (h old : Heap) (b : Nat) : setIf true h old b = h.setB b (old.get b) := rfl
theorem apart_lit {h : Heap} {z : Nat} {v : AVal} (hc : h.cls z = none) (hz : z ∉ v.blks) : Apart h z v := fun c h1 => ⟨fun q => hz (by rw [← q]; exact h1), fun r hr => by rw [hc] at hr; cases hr⟩
theorem all2_same : ∀ (l : List (List AVal)), (∀ c, c ∈ l → c.length = 7 ∧ c.all AVal.one = true) → ∀ h, All2 (rawR.rep h) l l
  | [], _, _ => trivial
  | c :: l, k, h => ⟨⟨rfl, (k c (by simp)).1, (k c (by simp)).2⟩, all2_same l (fun d hd => k d (by simp [hd])) h⟩
theorem all2_eq {h : Heap} : ∀ {l m : List (List AVal)}, All2 (rawR.rep h) l m → l = m
  | [], [], _ => rfl
  | c :: l, d :: m, k => by rw [k.1.1, all2_eq k.2]

section
variable {X : XTab}
theorem ordMove (hX : OnlyKnown X) {Q : Ex × T → Heap → Prop} {t : T} {g : Heap} {n k : Nat} {al : List Ev} {v8 : AVal} {y : Int} {b0 : Nat} {p0 : Nat} {B0 : List AVal} {i : Nat} (t6 : t 6 = I n) (t8 : t 8 = v8) (t12 : t 12 = I i) (hi : i + 1 < 2 ^ 63)
    (q1 : ixsR 1 (t 1) (I i) = some (.ptr b0 p0)) (q2 : g.get b0 = some B0) (q3 : B0[p0]? = some (I y))
    (o : Sl (evR 0) g v8 al) (hal : al.length = n) (hn : 1 ≤ n) (hn2 : n ≤ 20) (hk : pick y n = k)
    (hQ : ∀ g' v' t' x, al[k]? = some x → Ext [] g g' → Sl (evR 0) g' v' ([x] ++ (al.take k ++ al.drop (k + 1))) → t' 1 = t 1 → t' 5 = t 5 → t' 6 = t 6 → t' 8 = v' → t' 12 = I ((i : Int) + 1) → Q (.normal, t') g') :
    Tells (fun m => J_precentorlaw16_HoldOrder_12 Try.prog (acallX Try.prog X m) m okK t g) Q := by
  have hkn : k < n := by have := pick_lo y n; have := pick_hi y n (by omega); omega
  obtain ⟨x, hx⟩ : ∃ x, al[k]? = some x := ⟨_, List.getElem?_eq_getElem (by omega)⟩
  have wi : IntKind.i64.wrap ((i : Int) + 1) = i + 1 := wrap_id (by omega) (by omega)
  have wk : IntKind.i64.wrap ((k : Int) + 1) = k + 1 := wrap_id (by omega) (by omega)
  obtain ⟨b1, p1, B1, va, vs, r1, r2, r3, r4, oa, os, ua, us, -⟩ := ev_at o hx
  obtain ⟨css, s8, a8⟩ := o
  obtain ⟨l7, one7⟩ := reps_all a8
  have l8 : css.length = al.length := a8.len
  obtain ⟨Z, hZ, hZr⟩ := a8.at hx
  have R8 : Sl rawR g v8 css := ⟨css, s8, all2_same css (fun c hc => ⟨l7 c hc, by
    have := List.all_eq_true.1 one7
    exact List.all_eq_true.2 fun w hw => this w (List.mem_flatten.2 ⟨c, hc, hw⟩)⟩) g⟩
  -- the element is what is read
  have hZe : Z = evC x va vs := by
    obtain ⟨b', p', B', c', k1, k2, k3⟩ := R8.at (n := 7) rfl (i := (k : Int)) (by omega) (x := Z) (by simpa using hZ)
    have k3 : c' = Z := k3.1
    subst k3
    cases (r1.symm.trans k1)
    have e1 := k2.get
    rw [r2] at e1
    cases e1
    have e2 := k2.eq
    have : c'.length = 7 := l7 c' (List.mem_of_getElem? hZ)
    rw [this, r4] at e2
    exact e2.symm
  subst hZe
  have v8b := fun c hc => (R8.blk c hc).2
  have hb1 : b1 < g.next := get_lt r2
  unfold J_precentorlaw16_HoldOrder_12
  simp [t12, q1, q2, q3, t6]
  refine Tells.bind (Pick hX y n ⟨by omega, by omega⟩ g) ?_
  rintro _ g ⟨rfl, rfl⟩
  have eb : bslR 7 [I 0, I 0, I 0, I 0, I 0, .nils, .nils] 1 g [(0, 7, .agg (evC x va vs))] = .val (.sl g.next 0 1 1 7 true) (g.new false (evC x va vs)) := bsl1_agg (by rfl) (by rfl)
  have hZs : (evC x va vs).length = 7 ∧ (evC x va vs).all AVal.one = true := ⟨rfl, by simp [evC, oa.one, os.one]⟩
  have xA := Ext.new g false (evC x va vs)
  have isA : (g.new false (evC x va vs)).isM g.next = false := by rw [isM_new, if_pos rfl]
  have gtA : (g.new false (evC x va vs)).get g.next = some (evC x va vs) := by rw [Heap.get_new, if_pos rfl]
  have clA : (g.new false (evC x va vs)).cls g.next = none := by rw [Heap.cls_new]; exact Heap.cls_ge (Nat.le_refl _)
  have nA : (g.new false (evC x va vs)).next = g.next + 1 := rfl
  have hn0 : g.n0 ≤ g.next := n0_le g
  simp only [hk, t8, obv_val, r1, of_some, r2, ldn_ptr, r3, r4, ifb_true, eb, arbV_val, bsl0, if_true]
  generalize hhA : g.new false (evC x va vs) = hA at xA isA gtA clA nA
  have xB := Ext.new hA false []
  obtain ⟨-, gl0⟩ := Sl.lit (r := rawR) (h := hA) (h0 := g) (n := 7) (xs := ([] : List (List AVal))) (css := []) (k := 0) (cells := []) rfl trivial rfl rfl
  have nB : (hA.new false []).next = g.next + 2 := by show hA.next + 1 = _; omega
  have isB : (hA.new false []).isM g.next = false := by rw [xB.isM _ (by omega)]; exact isA
  have gtB : (hA.new false []).get g.next = some (evC x va vs) := by rw [xB.get _ (.inr (by simp)) (by rw [gtA]; rfl)]; exact gtA
  have clB : (hA.new false []).cls g.next = none := by rw [xB.cls _ (by omega)]; exact clA
  have nn0B : (hA.new false []).n0 = g.n0 := by rw [xB.n0, xA.n0]
  generalize hhB : hA.new false [] = hB at xB gl0 nB isB gtB clB nn0B
  have rootL : ∀ {h : Heap}, h.cls g.next = none → g.next ≤ h.root g.next := fun h => by unfold Heap.root; rw [h]; exact Nat.le_refl _
  have xk1 : ExtC g.next hB (hB.kill g.next) := setC (by rw [nn0B]; exact hn0) (by omega) none
  have clk1 : (hB.kill g.next).cls g.next = none := clB
  have E1 : Ext [] g (hB.kill g.next) := (xA.trans xB).extC xk1 (rootL clB)
  have nk1 : (hB.kill g.next).next = g.next + 2 := nB
  have z0 : g.next ∉ (AVal.sl hA.next 0 0 0 7 true).blks := by simp [AVal.blks]; omega
  have z8 : g.next ∉ v8.blks := fun hc => by have := v8b _ hc; omega
  have gl1 := gl0.extC raw_flat xk1 (apart_lit clB z0)
  obtain ⟨u1, c1, s1, bu1⟩ := (R8.ext E1).takeR (n := 7) rfl (hi := k) (by omega)
  simp only [killIf_true, setIf_true, c1, of_some, obv_val]
  refine Tells.appNE (by_ := 88) gl1 s1 (by rfl) (by simp; omega) (by decide) E1.next fun v2 hC gl2 x2 y2 z2 => ?_
  simp only [List.nil_append] at gl2
  have EC : Ext [] g hC := y2 _ E1
  have n2 : g.next + 2 ≤ hC.next := by rw [← nk1]; exact x2.next
  have cl2 : hC.cls g.next = none := by rw [x2.cls _ (by omega)]; exact clk1
  have is2 : hC.isM g.next = false := by rw [x2.isM _ (by omega)]; exact isB
  have zz2 : g.next ∉ v2.blks := fun hc => by
    rcases z2 _ hc with q | q
    · exact z0 q
    · omega
  have xs2 : ExtC g.next hC (hC.setB g.next (hB.get g.next)) := setC (by rw [EC.n0]; exact hn0) (by omega) _
  have gt3 : (hC.setB g.next (hB.get g.next)).get g.next = some (evC x va vs) := by rw [Heap.get_setB hC (by rw [EC.n0]; exact hn0) (by omega) (Heap.up_none cl2), if_pos rfl]; exact gtB
  have E3 : Ext [] g (hC.setB g.next (hB.get g.next)) := EC.extC xs2 (rootL cl2)
  have gl3 := gl2.extC raw_flat xs2 (apart_lit cl2 zz2)
  have cl3' : (hC.setB g.next (hB.get g.next)).cls g.next = none := cl2
  have is3 : (hC.setB g.next (hB.get g.next)).isM g.next = false := is2
  have n3 : (hC.setB g.next (hB.get g.next)).next = hC.next := rfl
  generalize hhD : hC.setB g.next (hB.get g.next) = hD at xs2 gt3 E3 gl3 cl3' is3 n3
  have rd : ∀ {h : Heap}, Ext [] g h → ((h.kill hA.next).kill g.next).get b1 = some B1 := fun {h} e => by
    have hh0 : h.n0 = g.n0 := e.n0
    rw [Heap.get_kill _ (by show h.n0 ≤ _; omega), if_neg (by omega), Heap.get_kill _ (by omega), if_neg (by omega), e.get b1 (.inr (by simp)) (by rw [r2]; rfl)]
    exact r2
  obtain ⟨u2, c2, s2, bu2⟩ := (R8.ext E3).dropR (n := 7) rfl (lo := k + 1) (by omega)
  have c2 : slcR 7 v8 (some (.int .i64 ((k : Int) + 1))) none none = some u2 := c2
  have xk4 : ExtC g.next hD (hD.kill g.next) := setC (by rw [E3.n0]; exact hn0) (by omega) none
  have E4 : Ext [] g (hD.kill g.next) := E3.extC xk4 (rootL cl3')
  have gl4 := gl3.extC raw_flat xk4 (apart_lit cl3' zz2)
  have s4 := s2.extC raw_flat xk4 (apart_lit cl3' (by rw [bu2]; exact z8))
  have cl4 : (hD.kill g.next).cls g.next = none := cl3'
  simp only [lt_eq, rd E3, of_some, arVal_val, ldn_ptr, r3, r4, if_true, isV_self, Bool.and_self, ifb_true, obv_val, aBin_add, wk, c2]
  refine Tells.appNE (by_ := 88) gl4 s4 (by rfl) (by simp; omega) (by decide) E4.next fun v5 h5 gl5 x5 y5 z5 => ?_
  have E5 : Ext [] g h5 := y5 _ E4
  have n5 : g.next + 2 ≤ h5.next := by have := x5.next; have : (hD.kill g.next).next = hD.next := rfl; omega
  have cl5 : h5.cls g.next = none := by rw [x5.cls _ (by show _ < hD.next; omega)]; exact cl4
  have is5 : h5.isM g.next = false := by rw [x5.isM _ (by show _ < hD.next; omega)]; exact is3
  have zz5 : g.next ∉ v5.blks := fun hc => by
    rcases z5 _ hc with q | q
    · exact zz2 q
    · have : (hD.kill g.next).next = hD.next := rfl
      omega
  have xs6 : ExtC g.next h5 (h5.setB g.next (hD.get g.next)) := setC (by rw [E5.n0]; exact hn0) (by omega) _
  have gt6 : (h5.setB g.next (hD.get g.next)).get g.next = some (evC x va vs) := by rw [Heap.get_setB h5 (by rw [E5.n0]; exact hn0) (by omega) (Heap.up_none cl5), if_pos rfl]; exact gt3
  have E6 : Ext [] g (h5.setB g.next (hD.get g.next)) := E5.extC xs6 (rootL cl5)
  have gl6 := gl5.extC raw_flat xs6 (apart_lit cl5 zz5)
  have is6 : (h5.setB g.next (hD.get g.next)).isM g.next = false := is5
  generalize hhF : h5.setB g.next (hD.get g.next) = h6 at xs6 gt6 E6 gl6 is6
  have glz : Gl rawR g h6 (.sl g.next 0 1 1 7 true) [evC x va vs] :=
    ⟨⟨[evC x va vs], .inr ⟨g.next, 0, 1, 7, true, evC x va vs, rfl, .inl rfl, Nat.le_refl 1, gt6, is6, Nat.le_refl 7, rfl, fun c hc => by simp at hc; subst hc; rfl⟩, ⟨rfl, hZs⟩, trivial⟩, .inr ⟨g.next, 0, 1, 1, 7, true, rfl, .inl ⟨rfl, rfl⟩⟩⟩
  simp only [lt_eq, rd E6, of_some, arVal_val, ldn_ptr, r3, r4, if_true, isV_self, Bool.and_self, ifb_true, obv_val]
  refine Tells.appNE (by_ := 88) glz gl6.1 (by rfl) (by simp; omega) (by decide) E6.next fun v7 h7 gl7 x7 y7 z7 => ?_
  have E7 : Ext [] g h7 := y7 _ E6
  obtain ⟨⟨css7, sl7, a7⟩, -⟩ := gl7
  have := all2_eq a7
  subst this
  have fin : Sl (evR 0) h7 v7 ([x] ++ (al.take k ++ al.drop (k + 1))) := by
    refine ⟨_, sl7, ?_⟩
    have b8 : All2 ((evR 0).rep h7) css al := a8.imp fun _ _ q => (evR 0).ext q E7
    have bz : (evR 0).rep h7 (evC x va vs) x := (evR 0).ext hZr E7
    exact All2.app ⟨bz, trivial⟩ ((b8.take k).app (b8.drop (k + 1)))
  simp [J_precentorlaw16_HoldOrder_13, t12, wi]
  exact Tells.ok (hQ h7 v7 _ x hx E7 fin (by simp) (by simp) (by simp) (by simp) (by simp))
end
end Go.Proofs.Ytbpbdigehfkjjaa

/-! Law HoldOrder: the walk, joined. -/
namespace Go.Proofs.Ytbpbdigehfkjjaa
open Go.Ab
section
variable {X : XTab}
/-- One event is made. -/
theorem ordMake (hX : OnlyKnown X) {Q : Ex × T → Heap → Prop} {t : T} {h1 g : Heap} {bf bc : Nat} {n : Int} {i : Nat} {es : List Ev} {cl : List Slots} {c0 c2 : Int} {v2 : AVal} (G : Good es cl c0 c2) (hi : es.length = i) (hi2 : i < 20)
    (t1 : t 1 = v2) (t5 : t 5 = .ptr bf 0) (t6 : t 6 = I n) (t7 : t 7 = .ptr bc 0) (t9 : t 9 = I i) (f : Feed g bf (8 * i + 1)) (oc : Ob g bc [I c0, I i, I c2]) (ga : Gl (evR 0) h1 g (t 8) es) (x : Ext [bf, bc] h1 g) (n1 : bf ≠ bc)
    (hQ : ∀ t' g' es' cl' c0' c2', Good es' cl' c0' c2' → es'.length = i + 1 → t' 1 = v2 → t' 5 = .ptr bf 0 → t' 6 = I n → t' 7 = .ptr bc 0 → t' 9 = I ((i : Int) + 1) → Feed g' bf (8 * (i + 1) + 1) → Ob g' bc [I c0', I ((i : Int) + 1), I c2'] → Gl (evR 0) h1 g' (t' 8) es' → Ext [bf, bc] h1 g' → Q (.normal, t') g') :
    Tells (fun m => J_precentorlaw16_HoldOrder_15 Try.prog (acallX Try.prog X m) m okK t g) Q := by
  have w : IntKind.i64.wrap ((i : Int) + 1) = i + 1 := wrap_id (by omega) (by omega)
  have q0 := G.b0
  have q2 := G.b2
  unfold J_precentorlaw16_HoldOrder_15
  simp [t9, w, bldR, fillR, splice]
  refine Tells.newSt (ds := evC ⟨1, 0, (i : Int) + 1, 0, 0, [], []⟩ .nils .nils) (by rfl) (by rfl) (by rfl) (by rfl) fun g1 be oe x1 l1 => ?_
  have n2 : bf ≠ be := by have := f.lt; omega
  have n3 : bc ≠ be := by have := oc.lt; omega
  try simp
  refine Tells.bind (ordStamps hX (hE := g) (g0 := g1) (bf := bf) (bc := bc) (be := be) (K := 8 * i + 1) (c0 := c0) (c1 := i) (c2 := c2) (e0 := ⟨1, 0, (i : Int) + 1, 0, 0, [], []⟩) (t1 := v2) (t6 := I n) (t8 := t 8) (t9 := I i) (by omega) (by omega) (by omega) (by omega)
    (by simp [t1]) (by simp [t5]) (by simp [t6]) (by simp [t7]) (by simp) (by simp [t9]) (by simp) (by simp) (f.e x1) (oc.e x1) oe x1.of n1 n2 n3 l1) ?_
  rintro ⟨ex, t'⟩ g2 ⟨rfl, k1, k5, k6, k7, k8, k9, k10, cf, l, vs, ps, f2, oc2, oe2, gs2, ws2, x2⟩
  simp only at k1 k5 k6 k7 k8 k9 k10
  have ll := ps.len
  have ga2 : Gl (evR 0) h1 g2 (t 8) es := ga.extO x2 fun b hb => by
    simp at hb
    rcases hb with rfl | rfl
    · exact .inl f.m
    · exact .inl oc.2.1
  simp [J_precentorlaw16_HoldOrder_17, k10, k5, oe2.1, evC]
  refine Tells.cbE (Next hX 9 ⟨by decide, by decide⟩ f2 (by omega)) ?_
  rintro _ g3 ⟨r, rfl, r0, r1, _, x3, f3⟩
  have r1 := r1 (by decide)
  have wr : IntKind.i64.wrap (1 + r) = 1 + r := wrap_id (by omega) (by omega)
  have oe3 := oe2.ext x3 (by simpa using n2.symm)
  have oc3 := oc2.ext x3 (by simpa using n1.symm)
  have gs3 := gs2.extO x3 (by simpa using .inl f2.m)
  have ga3 := ga2.extO x3 (by simpa using .inl f2.m)
  simp [oe3.1, evC, wr, bldR, fillR, splice]
  refine Tells.app1WE gs3 (ws2.ext x3) (by rfl) (by rfl) (show pairR.rep g3 [I 5, I (1 + r)] (5, 1 + r) from rfl) (by rfl) (by rfl) (by omega) (by decide) (Nat.le_trans x2.next x3.next) fun v4 g4 gl4 w4 x4 y4 z4 => ?_
  have oe4 := oe3.ext x4 (gs3.1.ob oe3)
  have oc4 := oc3.ext x4 (gs3.1.ob oc3)
  have f4 := f3.ext x4 (f3.out gs3.1)
  have X3 : Ext [bf, bc] g g3 := x2.trans (x3.mono (by simp))
  have X4 : Ext [bf, bc] g g4 := y4 _ X3
  have hS : ∀ b, b ∈ [bf, bc] → g.isM b = true ∨ g.next ≤ b := fun b hb => by
    simp at hb
    rcases hb with rfl | rfl
    · exact .inl f.m
    · exact .inl oc.2.1
  try simp [k10]
  refine Tells.st1E oe4 gl4.1.cells gl4.1.one (by simp [evC]) fun g5 oe5 x5 => ?_
  have oe5 : Ob g5 be (evC ⟨1, 0, (i : Int) + 1, 0, 0, [], []⟩ .nils v4) := oe5
  have oc5 := oc4.ext x5 (by simpa using n3)
  have f5 := f4.ext x5 (by simpa using n2)
  have gl5 := gl4.extO x5 (by simpa using .inl oe4.2.1)
  have w5 := w4.ext x5
  have X5 : Ext [bf, bc] g g5 := X4.then x5 fun z hz => .inr (by simp at hz; omega)
  have ga5 : Gl (evR 0) h1 g5 (t 8) es := ga.extO X5 hS
  obtain ⟨b0, b2, q00, q11, q22, hst⟩ := ps.fin (1 + r)
  have G2 := G.snoc b0 b2 (1 + r) 0 0 0
  rw [hi] at G2
  have hoe := oe5.1
  simp only [evC] at hoe
  simp [k8, k10, hoe]
  have hre : (evR 0).rep g5 (evC ⟨1, 0, (i : Int) + 1, 0, 0, [], stsO c0 i c2 b0 b2 (1 + r)⟩ .nils v4) ⟨1, 0, (i : Int) + 1, 0, 0, [], stsO c0 i c2 b0 b2 (1 + r)⟩ :=
    ⟨.nils, v4, rfl, Sl.nil, by rw [← hst]; exact gl5.1, fun b hb => by simp [AVal.blks] at hb, fun b hb => ⟨Nat.zero_le _, (w5 b hb).2⟩⟩
  refine Tells.app1 (r := evR 0) ga5 (by rfl) (by simp [AVal.known, gl5.1.known]) hre (by rfl) (by rfl) (by omega) (by decide) (Nat.le_trans x.next X5.next) fun v6 g6 gl6 x6 y6 z6 => ?_
  have oc6 := oc5.ext x6 (ga5.1.ob oc5)
  have f6 := f5.ext x6 (f5.out ga5.1)
  simp [J_precentorlaw16_HoldOrder_16, k9, w]
  refine Tells.ok (hQ _ g6 _ _ _ _ G2 (by simp [hi]) (by simp [k1]) (by simp [k5]) (by simp [k6]) (by simp [k7]) (by simp) (f6.mono (by omega)) ?_ (by simpa using gl6) (y6 _ (x.trans X5)))
  have : fnC cf 3 = [I (c0 + if b0 = true then 1 else 0), I ((i : Int) + 1), I (c2 + if b2 = true then 1 else 0)] := by
    show [I (cf 0), I (cf 1), I (cf 2)] = _
    rw [q00, q11, q22]
  rw [← this]
  exact oc6

theorem order (hX : OnlyKnown X) (hk : X F_precentorlaw16_known [] = some (.bool true)) {h : Heap} {v1 v2 : AVal} {xs1 xs2 : List Int} (r1 : RawInts h v1 xs1) (r2 : RawInts h v2 xs2) :
    Tells (fun m => acallX Try.prog X m F_precentorlaw16_HoldOrder [v1, v2] h) fun a _ => a = .bool true := by
  refine R_precentorlaw16_HoldOrder _ _ (hX _ _ rfl) ?_
  refine Tells.prot fun Q' hQ => ?_
  unfold S_precentorlaw16_HoldOrder
  simp [bldR, fillR, splice, r1.sl.known, r1.sl.cells]
  refine Tells.box rfl rfl fun h1 bf of x1 l1 => ?_
  have f1 : Feed h1 bf 0 := RawInts.feed' (r1.ext x1) of
  try simp
  refine Tells.bind (Next hX 10 ⟨by decide, by decide⟩ f1 (by omega)) ?_
  rintro _ h2 ⟨v, rfl, v0, vv1, _, x2, f2⟩
  have vv1 := vv1 (by decide)
  obtain ⟨n, hn⟩ : ∃ n : Nat, (n : Int) = 1 + v := ⟨(1 + v).toNat, by omega⟩
  have wn : IntKind.i64.wrap (1 + v) = n := by rw [wrap_id (by omega) (by omega)]; omega
  simp [wn]
  refine Tells.newSt (ds := [I 0, I 0, I 0]) (by rfl) (by rfl) (by rfl) (by rfl) fun h3 bc oc x3 l3 => ?_
  have n1 : bf ≠ bc := by have := f2.lt; omega
  have f3 := f2.e x3
  try simp
  refine Tells.bind (Tells.loop (fun n' t g => ∃ (i : Nat) (es : List Ev) (cl : List Slots) (c0 c2 : Int), Good es cl c0 c2 ∧ es.length = i ∧ t 1 = v2 ∧ t 5 = .ptr bf 0 ∧ t 6 = I n ∧ t 7 = .ptr bc 0 ∧ t 9 = I i ∧ i + n' = n ∧ Feed g bf (8 * i + 1) ∧ Ob g bc [I c0, I i, I c2] ∧ Gl (evR 0) h3 g (t 8) es ∧ Ext [bf, bc] h3 g)
    (Q := fun p g => p.1 = .exit 0 ∧ p.2 1 = v2 ∧ p.2 6 = I n ∧ Ext [bf, bc] h3 g ∧ ∃ es cl c0 c2, Good es cl c0 c2 ∧ es.length = n ∧ Sl (evR 0) g (p.2 8) es) ?_ n _ _ ?_) ?_
  · rintro n' t g ⟨i, es, cl, c0, c2, G, hi, t1, t5, t6, t7, t9, hin, f, oc, ga, x⟩
    refine Tells.prot fun Q2 hQ2 => ?_
    unfold L_precentorlaw16_HoldOrder_14
    by_cases hc : i < n
    · simp [t6, t9, hc]
      exact ordMake hX G hi (by omega) (by simp [t1]) (by simp [t5]) (by simp [t6]) (by simp [t7]) (by simp [t9]) f oc (by simpa using ga) x n1 fun t' g' es' cl' c0' c2' G' k0 k1 k5 k6 k7 k9 f' oc' ga' x' => hQ2 _ _ (.inl ⟨rfl, n' - 1, by omega, i + 1, es', cl', c0', c2', G', k0, k1, k5, k6, k7, by simpa using k9, by omega, f', by simpa using oc', ga', x'⟩)
    · have : i = n := by omega
      subst this
      simp [t6, t9]
      exact Tells.ok (hQ2 _ _ (.inr ⟨by simp, rfl, by simp [t1], by simp [t6], x, es, cl, c0, c2, G, hi, by simpa using ga.1⟩))
  · exact ⟨0, [], [cl3 1 1 1], 0, 0, Good.nil, rfl, by simp, by simp, by simp, by simp, by simp, by omega, f3, oc, by simpa using Gl.nil, .refl⟩
  · rintro ⟨ex, t⟩ g ⟨rfl, t1, t6, x, es, cl, c0, c2, G, hes, oa⟩
    simp only at t1 t6 oa
    simp [J_precentorlaw16_HoldOrder_0]
    refine Tells.bind (Tells.loop (fun n' t' g' => ∃ (i : Nat) (al : List Ev), t' 1 = v2 ∧ t' 6 = I n ∧ t' 12 = I i ∧ i + n' = xs2.length ∧ AnyO es al ∧ Sl (evR 0) g' (t' 8) al ∧ Ext [] g g')
      (Q := fun p g' => p.1 = .exit 4 ∧ p.2 6 = I n ∧ Ext [] g g' ∧ ∃ al, AnyO es al ∧ Sl (evR 0) g' (p.2 8) al) ?_ xs2.length _ _ ?_) ?_
    · rintro n' t' g' ⟨i, al, k1, k6, k12, hi, A, o, xg⟩
      refine Tells.prot fun Q2 hQ2 => ?_
      have o2 := ((((r2.sl.ext x1).ext x2).ext x3).ext x).ext xg
      have small := r2.small
      have hal : al.length = n := by rw [A.perm.length_eq, hes]
      unfold L_precentorlaw16_HoldOrder_11
      by_cases c1 : i < xs2.length
      · by_cases c2 : 1 < n
        · obtain ⟨y, hy⟩ : ∃ y, xs2[i]? = some y := ⟨_, List.getElem?_eq_getElem c1⟩
          obtain ⟨b, p, B, q1, q2, q3⟩ := o2.atI hy
          obtain ⟨k, hk⟩ : ∃ k : Nat, pick y n = k := ⟨(pick y n).toNat, by have := pick_lo y n; omega⟩
          simp [k1, k6, k12, o2.len, c1, show (1 : Int) < n by omega]
          exact ordMove hX (n := n) (k := k) (al := al) (y := y) (i := i) (by simp [k6]) (by simp; rfl) (by simp [k12]) (by omega) (by simpa [k1] using q1) q2 q3 (by simpa using o) hal (by omega) (by omega) hk fun g2 v2' t2 x hx e2 o3 j1 j5 j6 j8 j12 => hQ2 _ _ (.inl ⟨rfl, n' - 1, by omega, i + 1, _, by show t2 1 = v2; rw [j1]; simp [k1], by show t2 6 = I n; rw [j6]; simp [k6], by simpa using j12, by omega, A.move hx, by show Sl (evR 0) g2 (t2 8) _; rw [j8]; exact o3, xg.trans e2⟩)
        · simp [k1, k6, k12, o2.len, c1, show ¬ (1 : Int) < n by omega]
          exact Tells.ok (hQ2 _ _ (.inr ⟨by simp, rfl, by simp [k6], xg, al, A, by simpa using o⟩))
      · simp [k1, k12, o2.len, c1]
        exact Tells.ok (hQ2 _ _ (.inr ⟨by simp, rfl, by simp [k6], xg, al, A, by simpa using o⟩))
    · exact ⟨0, es, by simp [t1], by simp [t6], by simp, by omega, AnyO.of G, by simpa using oa, .refl⟩
    · rintro ⟨ex, t'⟩ g' ⟨rfl, k6, xg, al, A, o⟩
      simp only at k6 o
      simp [J_precentorlaw16_HoldOrder_1, k6]
      refine Tells.litW' (r := intR) (xs := [0, 1, 2]) (css := [[I 0], [I 1], [I 2]]) (by rfl) ⟨rfl, rfl, rfl, trivial⟩ (by rfl) (by rfl) (by rfl) fun v3 g3 gl3 w3 x3' => ?_
      try simp
      refine Tells.bind (hold_New hX n gl3.1 (by simp) 0) ?_
      rintro _ g4 ⟨b, cv, rfl, hd, wc, x4, l4⟩
      have hnew : newS [0, 1, 2] = cl3 1 1 1 := rfl
      rw [hnew] at hd
      try simp
      refine Tells.bind (known_X hk g4) ?_
      rintro _ g4 ⟨rfl, rfl⟩
      have pn := fun y z => ptr_nil (t := 36) Try.underlying36 y z b 0
      simp [pn]
      exact ordPuts hX (fun g => hQ _ _ rfl) G A hes (by omega) hd ((o.ext x3').ext x4) x4.next (by simp [k6]) (by simp) (by simp)
end
end Go.Proofs.Ytbpbdigehfkjjaa
