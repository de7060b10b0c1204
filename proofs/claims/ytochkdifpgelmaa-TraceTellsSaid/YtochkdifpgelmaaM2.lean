/-
  Texts of a claim, merged: Trc9, Trf3, TrQ, Trc5, Trf6, Trf7, Trf4, Trf5, Law25h.
-/
import Derived.Test.YtochkdifpgelmaaM1
import Derived.WalkKit
import Derived.Test.YtochkdifpgelmaaArg0
set_option linter.unusedVariables false
set_option linter.unusedSimpArgs false
/-! What trace's Causal tells. -/
namespace Go.Proofs.Ytochkdifpgelmaa
open Go.Ab

/-- Nothing that is heard first stands ahead of one of its causes. -/
def causalP (l : List Mk) : Prop := ∀ a, a ∈ rowsF l → ∀ (k : Nat) (x : Int × Int), a[k]? = some x → ∀ y, Rch (causeP l) x y → posF a y ≤ k + 1

section
variable {X : XTab}
theorem pos_loopC {g : Heap} {v : AVal} {a : List (Int × Int)} {b : Nat} {t : T} (o : Sl idR g v a) (hn : a.Nodup) (hl : a.length ≤ 100) (m0 : Mp (kTwo Try.prog 30 two30) g b [] (fun _ => 0)) (t22 : t 22 = v) (t23 : t 23 = I a.length) (t24 : t 24 = I 0) (t6 : t 6 = .mp b) :
    Tells (fun q => loopN (L_trace_Causal_11 Try.prog (acallX Try.prog X q) q) q t g) fun p g' => p.1 = .exit 2 ∧ Mp (kTwo Try.prog 30 two30) g' b a (posF a) ∧ Ext [b] g g' ∧ Frm [7, 8, 24, 25, 26, 27, 28, 29, 30, 31, 32, 33] t p.2 := by
  refine Tells.loop (fun n t' g' => ∃ i : Nat, t' 24 = I i ∧ i + n = a.length ∧ Mp (kTwo Try.prog 30 two30) g' b (a.take i) (posF (a.take i)) ∧ Ext [b] g g' ∧ Frm [7, 8, 24, 25, 26, 27, 28, 29, 30, 31, 32, 33] t t') ?_ a.length _ _ ?_
  · rintro n u g1 ⟨i, u24, hi, M, x, fr⟩
    have u22 : u 22 = v := (fr 22 rfl).trans t22
    have u23 : u 23 = I a.length := (fr 23 rfl).trans t23
    have u6 : u 6 = .mp b := (fr 6 rfl).trans t6
    refine Tells.prot fun Q2 hQ2 => ?_
    unfold L_trace_Causal_11
    simp [u24, u23]
    refine Tells.cb (fun hc => ?_) (fun hc => ?_)
    · simp at hc
      obtain ⟨y, hy⟩ : ∃ y, a[i]? = some y := ⟨_, List.getElem?_eq_getElem hc⟩
      obtain ⟨b1, p, B, q1, q2, q3, q4, q5, q6, q7⟩ := id_at (o.ext x) hy
      have htk : a.take (i + 1) = a.take i ++ [y] := by rw [List.take_add_one, hy]; rfl
      have hnew : y ∉ a.take i := fun q => by
        obtain ⟨j, hj⟩ := List.mem_iff_getElem?.1 q
        have hji : j < i := by have := (List.getElem?_eq_some_iff.1 hj).1; simp at this; omega
        rw [List.getElem?_take, if_pos hji] at hj
        have := (List.getElem?_inj (by omega) hn).1 (hj.trans hy.symm)
        omega
      have w : IntKind.i64.wrap ((i : Int) + 1) = i + 1 := wrap_id (by omega) (by omega)
      simp [J_trace_Causal_12, u24, u22, q1, q2, q3, q4]
      refine Tells.newSt (ds := idC y) (by rfl) (by rfl) (by rfl) (by rfl) fun g2 b2 o2 x2 l2 => ?_
      simp [o2.1, idC, u6, w]
      refine Tells.mset (M.e x2) mt47 (a := y) (κ := .agg [I y.1, I y.2]) (by rfl) fun g3 M3 x3 => ?_
      simp [J_trace_Causal_13, u24, w]
      refine Tells.ok (hQ2 _ _ (.inl ⟨rfl, n - 1, by omega, i + 1, by simp, by omega, ?_, (x.quiet x2).trans x3, ?_⟩))
      · have : posF (a.take (i + 1)) = updF (posF (a.take i)) y (i + 1) := by
          rw [htk, posF_app hnew, List.length_take, Nat.min_eq_left (by omega)]
        rw [this, htk, ← insK_new hnew]
        exact M3
      · repeat (first | exact fr | refine Frm.u ?_ _ _ (by decide))
    · simp at hc
      refine Tells.ok (hQ2 _ _ (.inr ⟨by simp, rfl, ?_, x, ?_⟩))
      · rw [List.take_of_length_le (by omega)] at M; exact M
      · exact fr.u _ _
  · exact ⟨0, by simp [t24], by omega, m0, .refl, .refl⟩


theorem causalI {g : Heap} {v : AVal} {a C : List (Int × Int)} {b k : Nat} {t : T} (o : Sl idR g v C) (hl : C.length ≤ 100) (hk : k ≤ 100) (M : Mp (kTwo Try.prog 30 two30) g b a (posF a)) (t43 : t 43 = v) (t44 : t 44 = I C.length) (t45 : t 45 = I 0) (t6 : t 6 = .mp b) (t9 : t 9 = I k) :
    Tells (fun q => loopN (L_trace_Causal_8 Try.prog (acallX Try.prog X q) q) q t g) fun p g' => Ext [] g g' ∧ ((p.1 = .exit 6 ∧ (∀ y, y ∈ C → posF a y ≤ k + 1) ∧ (∀ i, i ≤ 11 ∨ (13 ≤ i ∧ i ≤ 42) → p.2 i = t i)) ∨ (p.1 = .ret ∧ (∃ y, y ∈ C ∧ ¬ posF a y ≤ k + 1) ∧ p.2 2 = .bool false)) := by
  refine Tells.loop (fun n t' g' => ∃ (i : Nat), t' 45 = I i ∧ i + n = C.length ∧ Ext [] g g' ∧ (∀ y, y ∈ C.take i → posF a y ≤ k + 1) ∧ (∀ i, i ≤ 11 ∨ (13 ≤ i ∧ i ≤ 44) → t' i = t i)) ?_ C.length _ _ ?_
  · rintro n u g1 ⟨i, u45, hi, x, ha, fr⟩
    have u43 : u 43 = v := (fr 43 (by decide)).trans t43
    have u44 : u 44 = I C.length := (fr 44 (by decide)).trans t44
    have u6 : u 6 = .mp b := (fr 6 (by decide)).trans t6
    have u9 : u 9 = I k := (fr 9 (by decide)).trans t9
    refine Tells.prot fun Q2 hQ2 => ?_
    unfold L_trace_Causal_8
    simp [u45, u44]
    refine Tells.cb (fun hc => ?_) (fun hc => ?_)
    · simp at hc
      obtain ⟨y, hy⟩ : ∃ y, C[i]? = some y := ⟨_, List.getElem?_eq_getElem hc⟩
      obtain ⟨b1, p, B, q1, q2, q3, q4, q5, q6, q7⟩ := id_at (o.ext x) hy
      have htk : C.take (i + 1) = C.take i ++ [y] := by rw [List.take_add_one, hy]; rfl
      have w : IntKind.i64.wrap ((i : Int) + 1) = i + 1 := wrap_id (by omega) (by omega)
      have wk : IntKind.i64.wrap ((k : Int) + 1) = k + 1 := wrap_id (by omega) (by omega)
      simp [J_trace_Causal_9, u45, u43, q1, q2, q3, q4]
      refine Tells.newSt (ds := idC y) (by rfl) (by rfl) (by rfl) (by rfl) fun g2 b2 o2 x2 l2 => ?_
      have e := ((M.e x).e x2).look2 mt47 tz3 y
      simp [o2.1, idC, u6, u9, e, wk]
      refine Tells.cb (fun hd => ?_) (fun hd => ?_)
      · simp at hd
        refine Tells.ok (hQ2 _ _ (.inr ⟨by simp, x.trans x2, .inr ⟨rfl, ⟨y, List.mem_of_getElem? hy, by omega⟩, by simp⟩⟩))
      · simp at hd
        simp [J_trace_Causal_10, u45, w]
        refine Tells.ok (hQ2 _ _ (.inl ⟨rfl, n - 1, by omega, i + 1, by simp, by omega, x.trans x2, fun z hz => ?_, fun j hj => ?_⟩))
        · rw [htk] at hz
          rcases List.mem_append.1 hz with q | q
          · exact ha z q
          · simp at q; subst q; omega
        · simp only [upd]
          repeat rw [if_neg (by omega)]
          exact fr j hj
    · simp at hc
      rw [List.take_of_length_le (by omega)] at ha
      refine Tells.ok (hQ2 _ _ (.inr ⟨by simp, x, .inl ⟨rfl, ha, fun j hj => ?_⟩⟩))
      simp only [upd]
      rw [if_neg (by omega)]
      exact fr j (by omega)
  · exact ⟨0, by simp [t45], by omega, .refl, by simp, fun _ _ => rfl⟩

theorem causalR (hX : OnlyKnown X) {h g : Heap} {va v : AVal} {l : List Mk} {a : List (Int × Int)} {b : Nat} {t : T} (ol : Sl mkR h v l) (hll : l.length ≤ 100) (xh : Ext [] h g) (o : Sl idR g va a) (hl : a.length ≤ 100) (M : Mp (kTwo Try.prog 30 two30) g b a (posF a)) (t0 : t 0 = v) (t34 : t 34 = va) (t35 : t 35 = I a.length) (t36 : t 36 = I 0) (t6 : t 6 = .mp b) :
    Tells (fun q => loopN (L_trace_Causal_5 Try.prog (acallX Try.prog X q) q) q t g) fun p g' => Ext [] g g' ∧ ((p.1 = .exit 4 ∧ (∀ (k : Nat) (x : Int × Int), a[k]? = some x → ∀ y, Rch (causeP l) x y → posF a y ≤ k + 1) ∧ (∀ i, i ≤ 8 ∨ (13 ≤ i ∧ i ≤ 33) → p.2 i = t i)) ∨
      (p.1 = .ret ∧ (¬ ∀ (k : Nat) (x : Int × Int), a[k]? = some x → ∀ y, Rch (causeP l) x y → posF a y ≤ k + 1) ∧ p.2 2 = .bool false)) := by
  refine Tells.loop (fun n t' g' => ∃ (i : Nat), t' 36 = I i ∧ i + n = a.length ∧ Ext [] g g' ∧ (∀ (k : Nat) (x : Int × Int), k < i → a[k]? = some x → ∀ y, Rch (causeP l) x y → posF a y ≤ k + 1) ∧ (∀ i, i ≤ 8 ∨ (13 ≤ i ∧ i ≤ 35) → t' i = t i)) ?_ a.length _ _ ?_
  · rintro n u g1 ⟨i, u36, hi, x, ha, fr⟩
    have u34 : u 34 = va := (fr 34 (by decide)).trans t34
    have u35 : u 35 = I a.length := (fr 35 (by decide)).trans t35
    have u6 : u 6 = .mp b := (fr 6 (by decide)).trans t6
    have u0 : u 0 = v := (fr 0 (by decide)).trans t0
    refine Tells.prot fun Q2 hQ2 => ?_
    unfold L_trace_Causal_5
    simp [u36, u35]
    refine Tells.cb (fun hc => ?_) (fun hc => ?_)
    · simp at hc
      obtain ⟨z, hz⟩ : ∃ z, a[i]? = some z := ⟨_, List.getElem?_eq_getElem hc⟩
      obtain ⟨b1, p, B, q1, q2, q3, q4, q5, q6, q7⟩ := id_at (o.ext x) hz
      have w : IntKind.i64.wrap ((i : Int) + 1) = i + 1 := wrap_id (by omega) (by omega)
      simp [J_trace_Causal_6, u36, u34, q1, q2, q3, q4]
      refine Tells.newSt (ds := idC z) (by rfl) (by rfl) (by rfl) (by rfl) fun g2 b2 o2 x2 l2 => ?_
      simp [o2.1, idC, u0]
      have hcz : Tells (fun q => acallX Try.prog X q F_trace_Causes [v, .agg [I z.1, I z.2]] g2) _ := trace_Causes hX (((ol.ext xh).ext x).ext x2) hll z
      refine Tells.bind hcz ?_
      rintro cv g3 ⟨L, sl, rise, mem, len, x3⟩
      have x03 := (x.trans x2).trans x3
      simp [sl.len]
      refine Tells.bind (causalI (b := b) (k := i) sl len (by omega) (M.e x03) (by simp) (by simp) (by simp) (by simp [u6]) (by simp)) ?_
      rintro ⟨ex, t2⟩ g4 ⟨x4, ⟨rfl, hag, f2⟩ | ⟨rfl, ⟨y, hy, hbad⟩, h2⟩⟩
      · have k36 : t2 36 = I i := (f2 36 (by decide)).trans (by simp [u36])
        simp [J_trace_Causal_7, k36, w]
        refine Tells.ok (hQ2 _ _ (.inl ⟨rfl, n - 1, by omega, i + 1, by simp, by omega, x03.trans x4, fun k x hk hx y hy => ?_, fun j hj => ?_⟩))
        · by_cases q : k = i
          · subst q; rw [hz] at hx; cases hx; exact hag y ((mem y).2 hy)
          · exact ha k x (by omega) hx y hy
        · have : t2 j = _ := f2 j (by omega)
          simp only [upd]
          repeat rw [if_neg (by omega)]
          rw [this]
          simp only [upd]
          repeat rw [if_neg (by omega)]
          exact fr j hj
      · simp
        refine Tells.ok (hQ2 _ _ (.inr ⟨by simp, x03.trans x4, .inr ⟨rfl, fun h => hbad (h i z hz y ((mem y).1 hy)), h2⟩⟩))
    · simp at hc
      refine Tells.ok (hQ2 _ _ (.inr ⟨by simp, x, .inl ⟨rfl, fun k x hk => ha k x (by have := (List.getElem?_eq_some_iff.1 hk).1; omega) hk, fun j hj => ?_⟩⟩))
      simp only [upd]
      rw [if_neg (by omega)]
      exact fr j (by omega)
  · exact ⟨0, by simp [t36], by omega, .refl, fun k x h => by omega, fun _ _ => rfl⟩

theorem trace_Causal (hX : OnlyKnown X) {h : Heap} {v : AVal} {l : List Mk} (o : Sl mkR h v l) (hl : l.length ≤ 100) : Tells (fun q => acallX Try.prog X q F_trace_Causal [v] h) fun r h' => ∃ b : Bool, r = .bool b ∧ (b = true ↔ causalP l) ∧ Ext [] h h' := by
  refine R_trace_Causal _ (hX _ _ rfl) ?_
  refine Tells.prot fun Q' hQ => ?_
  unfold S_trace_Causal
  simp
  refine Tells.bind (trace_rows hX o hl) ?_
  rintro all h1 ⟨⟨vs, fam⟩, x1⟩
  have orr := fam.rd
  have hR := rowsF_len l
  have hrl : ∀ c, c ∈ rowsF l → c.length ≤ 100 := fun c hc => Nat.le_trans (row_len hc) hl
  have hnd : ∀ c, c ∈ rowsF l → c.Nodup := fun c hc => nodup_row hc
  have hcp : causalP l = ∀ a, a ∈ rowsF l → ∀ (k : Nat) (x : Int × Int), a[k]? = some x → ∀ y, Rch (causeP l) x y → posF a y ≤ k + 1 := rfl
  generalize rowsF l = R at *
  simp [orr.len]
  refine Tells.bind (Tells.loop (fun n t g => ∃ i : Nat, t 0 = v ∧ t 15 = all ∧ t 16 = I R.length ∧ t 17 = I i ∧ i + n = R.length ∧ Ext [] h1 g ∧ ∀ a, a ∈ R.take i → ∀ (k : Nat) (x : Int × Int), a[k]? = some x → ∀ y, Rch (causeP l) x y → posF a y ≤ k + 1)
    (Q := fun p g => Ext [] h1 g ∧ ((p.1 = .exit 0 ∧ causalP l) ∨ (p.1 = .ret ∧ p.2 2 = .bool false ∧ ¬ causalP l))) ?_ R.length _ _ ?_) ?_
  · rintro n t g ⟨i, t0, t15, t16, t17, hi, x, hag⟩
    refine Tells.prot fun Q2 hQ2 => ?_
    unfold L_trace_Causal_1
    simp [t17, t16]
    refine Tells.cb (fun hc => ?_) (fun hc => ?_)
    · simp at hc
      obtain ⟨a, hy⟩ : ∃ a, R[i]? = some a := ⟨_, List.getElem?_eq_getElem hc⟩
      have ha := List.mem_of_getElem? hy
      have htk : R.take (i + 1) = R.take i ++ [a] := by rw [List.take_add_one, hy]; rfl
      obtain ⟨b1, p, B, w1, q1, q2, q3, q4⟩ := row_at (orr.ext x) hy
      have w : IntKind.i64.wrap ((i : Int) + 1) = i + 1 := wrap_id (by omega) (by omega)
      obtain ⟨m1, x2⟩ := Mp.make (K := kTwo Try.prog 30 two30) g
      have q4' := q4.ext x2
      simp [J_trace_Causal_2, t15, t17, q1, q2, q3, q4.len]
      refine Tells.bind (pos_loopC (b := g.next) q4' (hnd a ha) (hrl a ha) m1 (by simp) (by simp) (by simp) (by simp)) ?_
      rintro ⟨ex, u⟩ g2 ⟨rfl, m2, x3, fr⟩
      have k0 : u 0 = v := (fr 0 rfl).trans (by simp [t0])
      have k5 : u 5 = w1 := (fr 5 rfl).trans (by simp)
      have k6 : u 6 = .mp g.next := (fr 6 rfl).trans (by simp)
      have x13 := (x.trans x2).then x3 (by simp; have := x.next; omega)
      have s2 := (q4.ext x2).ext x3
      simp [J_trace_Causal_4, k5, s2.len]
      refine Tells.bind (causalR hX (b := g.next) (h := h) o hl (x1.trans x13) s2 (hrl a ha) m2 (by simp [k0]) (by simp) (by simp) (by simp) (by simp [k6])) ?_
      rintro ⟨ex, u2⟩ g3 ⟨x4, ⟨rfl, hall, f2⟩ | ⟨rfl, hall, h2⟩⟩
      · have e17 : u2 17 = I i := (f2 17 (by decide)).trans (by simp; exact (fr 17 rfl).trans (by simp [t17]))
        have e0 : u2 0 = v := (f2 0 (by decide)).trans (by simp [k0])
        have e15 : u2 15 = all := (f2 15 (by decide)).trans (by simp; exact (fr 15 rfl).trans (by simp [t15]))
        have e16 : u2 16 = I R.length := (f2 16 (by decide)).trans (by simp; exact (fr 16 rfl).trans (by simp [t16]))
        simp [J_trace_Causal_3, e17, w]
        refine Tells.ok (hQ2 _ _ (.inl ⟨rfl, n - 1, by omega, i + 1, by simp [e0], by simp [e15], by simp [e16], by simp, by omega, x13.trans x4, fun c hc => ?_⟩))
        rw [htk] at hc
        rcases List.mem_append.1 hc with q | q
        · exact hag c q
        · simp at q; subst q; exact hall
      · simp
        refine Tells.ok (hQ2 _ _ (.inr ⟨by simp, x13.trans x4, .inr ⟨rfl, h2, fun h => hall ?_⟩⟩))
        rw [hcp] at h
        exact h a ha
    · simp at hc
      rw [List.take_of_length_le (by omega)] at hag
      exact Tells.ok (hQ2 _ _ (.inr ⟨by simp, x, .inl ⟨rfl, by rw [hcp]; exact hag⟩⟩))
  · exact ⟨0, by simp, by simp, by simp, by simp, by omega, .refl, by simp⟩
  · rintro ⟨ex, t⟩ g ⟨x, ⟨rfl, ho⟩ | ⟨rfl, t2, ho⟩⟩
    · simp [J_trace_Causal_0]
      exact Tells.ok (hQ _ _ ⟨true, rfl, by simp [ho], x1.trans x⟩)
    · simp
      exact Tells.ok (hQ _ _ ⟨false, t2, by simp [ho], x1.trans x⟩)
end
end Go.Proofs.Ytochkdifpgelmaa

/-! What the document's Causes, Causal tell. -/
namespace Go.Proofs.Ytochkdifpgelmaa
open Go.Ab

/-- What y's client saw among the first so many. -/
def seenP (l : List Mk) (y : Int × Int) (k : Nat) (z : Int × Int) : Prop := ∃ (j : Nat) (m : Mk), l[j]? = some m ∧ j < k ∧ m.c = y.1 ∧ mid m = z
theorem seenP_succ {l : List Mk} {y z : Int × Int} {k : Nat} {m : Mk} (hk : l[k]? = some m) : seenP l y (k + 1) z ↔ seenP l y k z ∨ (m.c = y.1 ∧ mid m = z) := by
  constructor
  · rintro ⟨j, a, h1, h2, h3, h4⟩
    by_cases q : j = k
    · subst q; rw [hk] at h1; cases h1; exact .inr ⟨h3, h4⟩
    · exact .inl ⟨j, a, h1, by omega, h3, h4⟩
  · rintro (⟨j, a, h1, h2, h3, h4⟩ | ⟨h3, h4⟩)
    · exact ⟨j, a, h1, by omega, h3, h4⟩
    · exact ⟨k, m, hk, by omega, h3, h4⟩

theorem rise_nodup {l : Ids} (h : Rise2 l) : l.Nodup := List.Pairwise.imp (fun {a b} hab q => by rw [q, lt2_irrefl] at hab; cases hab) h
section
variable {X : XTab}
theorem refC_in (hX : OnlyKnown X) {h g : Heap} {v vo vt : AVal} {l : List Mk} {L0 T0 : Ids} {x y : Int × Int} {i k : Nat} {t : T} (o : Sl mkR h v l) (hl : l.length ≤ 100) (x0 : Ext [] h g) (hk : k ≤ l.length) (hy : T0[i]? = some y) (sl : Sl idR g vo L0) (rise : Rise2 L0) (hL : ∀ z, z ∈ L0 → z ∈ l.map mid)
    (gt : Gl idR h g vt T0) (tn : T0.Nodup) (hT : ∀ z, z ∈ T0 → z = x ∨ z ∈ l.map mid) (t0 : t 0 = v) (t5 : t 5 = vo) (t6 : t 6 = vt) (t7 : t 7 = I i) (t8 : t 8 = I k) (t9 : t 9 = I 0) :
    Tells (fun q => loopN (L_precentorref23_Causes_9 Try.prog (acallX Try.prog X q) q) q t g) fun w g' => w.1 = .exit 4 ∧ Ext [] h g' ∧ (∃ L T, Sl idR g' (w.2 5) L ∧ Rise2 L ∧ (∀ z, z ∈ L → z ∈ l.map mid) ∧ (∀ z, z ∈ L ↔ z ∈ L0 ∨ seenP l y k z) ∧ Gl idR h g' (w.2 6) T ∧ T.Nodup ∧ (∀ z, z ∈ T → z = x ∨ z ∈ l.map mid) ∧ (∀ z, z ∈ T ↔ z ∈ T0 ∨ seenP l y k z) ∧ ∃ r, T = T0 ++ r) ∧
      ∀ j, j ≤ 4 ∨ j = 7 ∨ j = 8 → w.2 j = t j := by
  have bound : ∀ {L : Ids}, Rise2 L → (∀ z, z ∈ L → z ∈ l.map mid) → L.length ≤ 100 := fun hr hm => by
    have := nodup_sub_len (rise_nodup hr) hm
    simp at this; omega
  have boundT : ∀ {T : Ids}, T.Nodup → (∀ z, z ∈ T → z = x ∨ z ∈ l.map mid) → T.length ≤ 101 := fun hn hm => by
    have := nodup_sub_len (m := x :: l.map mid) hn fun z hz => by rcases hm z hz with q | q <;> simp [q] at q ⊢ <;> simp [q]
    simp at this; omega
  refine Tells.loop (fun n t' g' => ∃ (j : Nat) (L T : Ids), t' 9 = I j ∧ j + n = k ∧ Ext [] h g' ∧ Sl idR g' (t' 5) L ∧ Rise2 L ∧ (∀ z, z ∈ L → z ∈ l.map mid) ∧ (∀ z, z ∈ L ↔ z ∈ L0 ∨ seenP l y j z) ∧ Gl idR h g' (t' 6) T ∧ T.Nodup ∧ (∀ z, z ∈ T → z = x ∨ z ∈ l.map mid) ∧ (∀ z, z ∈ T ↔ z ∈ T0 ∨ seenP l y j z) ∧ (∃ r, T = T0 ++ r) ∧
      ∀ j, j ≤ 4 ∨ j = 7 ∨ j = 8 → t' j = t j) ?_ k _ _ ?_
  · rintro n u g1 ⟨j, L, T, u9, hj, xx, sL, rL, mL, eL, gT, nT, mT, eT, ⟨r, hr⟩, fr⟩
    have u0 : u 0 = v := (fr 0 (by decide)).trans t0
    have u7 : u 7 = I i := (fr 7 (by decide)).trans t7
    have u8 : u 8 = I k := (fr 8 (by decide)).trans t8
    refine Tells.prot fun Q2 hQ2 => ?_
    unfold L_precentorref23_Causes_9
    simp [u9, u8]
    refine Tells.cb (fun hc => ?_) (fun hc => ?_)
    · simp at hc
      obtain ⟨m, hm⟩ : ∃ m, l[j]? = some m := ⟨_, List.getElem?_eq_getElem (by omega)⟩
      obtain ⟨b, p, B, q1, q2, q3, q4, q5, q6, q7, q8, q9⟩ := mk_at (o.ext xx) hm
      have hTi : T[i]? = some y := by
        rw [hr, List.getElem?_append_left (List.getElem?_eq_some_iff.1 hy).1]; exact hy
      obtain ⟨b2, p2, B2, r1, r2, r3, r4, r5, r6, r7⟩ := id_at gT.1 hTi
      have w : IntKind.i64.wrap ((j : Int) + 1) = j + 1 := wrap_id (by omega) (by omega)
      have hmid : mid m ∈ l.map mid := List.mem_map_of_mem (List.mem_of_getElem? hm)
      simp [J_precentorref23_Causes_10, u9, u0, u7, q1, q2, q7, r1, r2, r6]
      by_cases hcc : m.c = y.1
      · simp [hcc, J_precentorref23_Causes_12, u9, u0, q1, q2, q3, q4]
        refine Tells.bind (by simpa [hcc] using ref_idC hX m g1) ?_
        rintro _ g2 ⟨rfl, x2⟩
        refine Tells.bind (ref_put hX (sL.ext x2) (by have := bound rL mL; omega) rL (mid m)) ?_
        rintro lv g3 ⟨sL3, x3⟩
        have xx3 := (xx.trans x2).trans x3
        obtain ⟨b3, p3, B3, s1, s2, s3, s4, s5, s6, s7, s8, s9⟩ := mk_at (o.ext xx3) hm
        cases q1.symm.trans s1
        simp [u0, u9, q1, s2, s3, s4]
        refine Tells.bind (ref_idC hX m g3) ?_
        rintro _ g4 ⟨rfl, x4⟩
        have gT4 := ((gT.e x2).e x3).e x4
        refine Tells.bind (ref_at hX gT4.1 (by have := boundT nT mT; omega) (mid m)) ?_
        rintro _ g5 ⟨rfl, x5⟩
        have xx5 := (xx3.trans x4).trans x5
        have gT5 := gT4.e x5
        obtain ⟨lr, lm, ll⟩ := layF_ok (y := mid m) rL
        have mL' : ∀ z, z ∈ layF L (mid m) → z ∈ l.map mid := fun z hz => by
          rcases (lm z).1 hz with q | q
          · rw [q]; exact hmid
          · exact mL z q
        have eL' : ∀ z, z ∈ layF L (mid m) ↔ z ∈ L0 ∨ seenP l y (j + 1) z := fun z => by
          rw [lm, eL, seenP_succ hm]
          constructor
          · rintro (q | q | q)
            · exact .inr (.inr ⟨hcc, q.symm⟩)
            · exact .inl q
            · exact .inr (.inl q)
          · rintro (q | q | q)
            · exact .inr (.inl q)
            · exact .inr (.inr q)
            · exact .inl q.2.symm
        by_cases hin : mid m ∈ T
        · have hge : ¬ posF T (mid m) - 1 < 0 := by rw [posF_in hin]; omega
          simp [hge, J_precentorref23_Causes_11, u9, w]
          refine Tells.ok (hQ2 _ _ (.inl ⟨rfl, n - 1, by omega, j + 1, layF L (mid m), T, by simp, by omega, xx5, by simpa using (sL3.ext x4).ext x5, lr, mL', eL', by simpa using gT5, nT, mT, fun z => ?_, ⟨r, hr⟩, fun z hz => ?_⟩))
          · rw [eT, seenP_succ hm]
            constructor
            · rintro (q | q)
              · exact .inl q
              · exact .inr (.inl q)
            · rintro (q | q | q)
              · exact .inl q
              · exact .inr q
              · rw [← eT, ← q.2]; exact hin
          · simp only [upd]
            repeat rw [if_neg (by omega)]
            exact fr z hz
        · have hge : posF T (mid m) - 1 < 0 := by rw [posF_out hin]; omega
          obtain ⟨b5, p5, B5, v1, v2, v3, v4, v5, v6, v7, v8, v9⟩ := mk_at (o.ext xx5) hm
          cases q1.symm.trans v1
          simp [hge, u0, u9, q1, v2, v3, v4]
          refine Tells.bind (ref_idC hX m g5) ?_
          rintro _ g6 ⟨rfl, x6⟩
          try simp
          refine Tells.app1 (r := idR) (c := idC (mid m)) (x := mid m) (gT5.e x6) (by rfl) (by rfl) (by rfl) (by rfl) (by rfl) (by have := boundT nT mT; omega) (by decide) (xx5.trans x6).next fun s7 g7 go7 y7 y7' z7 => ?_
          simp [J_precentorref23_Causes_11, u9, w]
          refine Tells.ok (hQ2 _ _ (.inl ⟨rfl, n - 1, by omega, j + 1, layF L (mid m), T ++ [mid m], by simp, by omega, y7' _ (xx5.trans x6), by simpa using (((sL3.ext x4).ext x5).ext x6).ext y7, lr, mL', eL', by simpa using go7, ?_, fun z hz => ?_, fun z => ?_, ⟨r ++ [mid m], by rw [hr, List.append_assoc]⟩, fun z hz => ?_⟩))
          · rw [List.nodup_append]
            exact ⟨nT, by simp, fun a ha b hb => by simp at hb; subst hb; exact fun q => hin (q ▸ ha)⟩
          · rcases List.mem_append.1 hz with q | q
            · exact mT z q
            · simp at q; rw [q]; exact .inr hmid
          · rw [List.mem_append, eT, seenP_succ hm, List.mem_singleton]
            constructor
            · rintro ((q | q) | q)
              · exact .inl q
              · exact .inr (.inl q)
              · exact .inr (.inr ⟨hcc, q.symm⟩)
            · rintro (q | q | q)
              · exact .inl (.inl q)
              · exact .inl (.inr q)
              · exact .inr q.2.symm
          · simp only [upd]
            repeat rw [if_neg (by omega)]
            exact fr z hz
      · have e1 : (m.c != y.1) = true := by simpa using hcc
        have stay : ∀ z, seenP l y (j + 1) z ↔ seenP l y j z := fun z => by
          rw [seenP_succ hm]
          exact ⟨fun q => q.elim id fun q => absurd q.1 hcc, .inl⟩
        simp [hcc, e1, J_precentorref23_Causes_11, u9, w]
        refine Tells.ok (hQ2 _ _ (.inl ⟨rfl, n - 1, by omega, j + 1, L, T, by simp, by omega, xx, by simpa using sL, rL, mL, fun z => by rw [stay]; exact eL z, by simpa using gT, nT, mT, fun z => by rw [stay]; exact eT z, ⟨r, hr⟩, fun z hz => ?_⟩))
        simp only [upd]
        repeat rw [if_neg (by omega)]
        exact fr z hz
    · simp at hc
      have : j = k := by omega
      subst this
      refine Tells.ok (hQ2 _ _ (.inr ⟨by simp, rfl, xx, ⟨L, T, by simpa using sL, rL, mL, eL, by simpa using gT, nT, mT, eT, r, hr⟩, fun z hz => ?_⟩))
      simp only [upd]
      repeat rw [if_neg (by omega)]
      exact fr z hz
  · have no : ∀ z, ¬ seenP l y 0 z := fun z ⟨j, m, _, q, _⟩ => by omega
    exact ⟨0, L0, T0, t9, by omega, x0, by rw [t5]; exact sl, rise, hL, fun z => ⟨.inl, fun q => q.elim id fun q => absurd q (no z)⟩, by rw [t6]; exact gt, tn, hT, fun z => ⟨.inl, fun q => q.elim id fun q => absurd q (no z)⟩, ⟨[], by simp⟩, fun _ _ => rfl⟩

/-- The first mark with which y was sent is looked for; what was seen ahead of it is told. -/
theorem refC_find (hX : OnlyKnown X) {h g : Heap} {v vo vt : AVal} {l : List Mk} {L0 T0 : Ids} {x y : Int × Int} {i : Nat} {t : T} (o : Sl mkR h v l) (hl : l.length ≤ 100) (x0 : Ext [] h g) (hy : T0[i]? = some y) (sl : Sl idR g vo L0) (rise : Rise2 L0) (hL : ∀ z, z ∈ L0 → z ∈ l.map mid)
    (gt : Gl idR h g vt T0) (tn : T0.Nodup) (hT : ∀ z, z ∈ T0 → z = x ∨ z ∈ l.map mid) (t0 : t 0 = v) (t5 : t 5 = vo) (t6 : t 6 = vt) (t7 : t 7 = I i) (t8 : t 8 = I 0) :
    Tells (fun q => loopN (L_precentorref23_Causes_4 Try.prog (acallX Try.prog X q) q) q t g) fun w g' => w.1 = .exit 2 ∧ Ext [] h g' ∧ (∃ L T, Sl idR g' (w.2 5) L ∧ Rise2 L ∧ (∀ z, z ∈ L → z ∈ l.map mid) ∧ (∀ z, z ∈ L ↔ z ∈ L0 ∨ causeP l y z) ∧ Gl idR h g' (w.2 6) T ∧ T.Nodup ∧ (∀ z, z ∈ T → z = x ∨ z ∈ l.map mid) ∧ (∀ z, z ∈ T ↔ z ∈ T0 ∨ causeP l y z) ∧ ∃ r, T = T0 ++ r) ∧
      ∀ j, j ≤ 4 ∨ j = 7 → w.2 j = t j := by
  refine Tells.loop (fun n t' g' => ∃ (k : Nat), t' 8 = I k ∧ k + n = l.length ∧ Ext [] h g' ∧ t' 5 = vo ∧ t' 6 = vt ∧ Sl idR g' vo L0 ∧ Gl idR h g' vt T0 ∧ (∀ a, a ∈ l.take k → isSent y a = false) ∧ ∀ j, j ≤ 4 ∨ j = 7 → t' j = t j) ?_ l.length _ _ ?_
  · rintro n u g1 ⟨k, u8, hk, xx, u5, u6, sL, gT, hno, fr⟩
    have u0 : u 0 = v := (fr 0 (by decide)).trans t0
    have u7 : u 7 = I i := (fr 7 (by decide)).trans t7
    refine Tells.prot fun Q2 hQ2 => ?_
    unfold L_precentorref23_Causes_4
    simp [u8, u0, (o.ext xx).len]
    refine Tells.cb (fun hc => ?_) (fun hc => ?_)
    · simp at hc
      obtain ⟨m, hm⟩ : ∃ m, l[k]? = some m := ⟨_, List.getElem?_eq_getElem hc⟩
      obtain ⟨b, p, B, q1, q2, q3, q4, q5, q6, q7, q8, q9⟩ := mk_at (o.ext xx) hm
      have htk : l.take (k + 1) = l.take k ++ [m] := by rw [List.take_add_one, hm]; rfl
      have w : IntKind.i64.wrap ((k : Int) + 1) = k + 1 := wrap_id (by omega) (by omega)
      have next : isSent y m = false → ∀ (g2 : Heap) (u' : T), Ext [] g1 g2 → u' 8 = I k → u' 5 = vo → u' 6 = vt → (∀ j, j ≤ 4 ∨ j = 7 → u' j = t j) → Tells (fun q => J_precentorref23_Causes_6 Try.prog (acallX Try.prog X q) q okK u' g2) Q2 := by
        intro hs g2 u' x2 e8 e5 e6 fr'
        simp [J_precentorref23_Causes_6, e8, w]
        refine Tells.ok (hQ2 _ _ (.inl ⟨rfl, n - 1, by omega, k + 1, by simp, by omega, xx.trans x2, by simp [e5], by simp [e6], sL.ext x2, gT.e x2, fun a ha => ?_, fun z hz => ?_⟩))
        · rw [htk] at ha
          rcases List.mem_append.1 ha with q | q
          · exact hno a q
          · simp at q; rw [q]; exact hs
        · simp only [upd]
          repeat rw [if_neg (by omega)]
          exact fr' z hz
      simp [J_precentorref23_Causes_5, u8, u0, q1, q2, q6]
      by_cases hs : m.sent = true
      · simp [hs, u8, u0, q1, q2, q3, q4]
        refine Tells.cbE (by simpa [hs] using ref_idC hX m g1) ?_
        rintro _ g2 ⟨rfl, x2⟩
        obtain ⟨b2, p2, B2, r1, r2, r3, r4, r5, r6, r7⟩ := id_at gT.1 hy
        obtain ⟨b3, p3, B3, s1, s2, s3, s4, s5, s6, s7⟩ := id_at (gT.e x2).1 hy
        cases r1.symm.trans s1
        simp [u6, u7, r1, r2, r3, r4, s2, s3, s4, aBin_neq2 two30, idC]
        by_cases hq : mid m = y
        · have e1 : (mid m).1 = y.1 := by rw [hq]
          have e2 : (mid m).2 = y.2 := by rw [hq]
          have hf : firstS l y = k := firstS_some hm (by simp [isSent, hs, hq]) hno
          simp [e1, e2, J_precentorref23_Causes_7]
          refine Tells.bind (refC_in hX (h := h) (vo := vo) (vt := vt) (L0 := L0) (T0 := T0) (x := x) (y := y) (i := i) (k := k) o hl (xx.trans x2) (by omega) hy (sL.ext x2) rise hL (gT.e x2) tn hT (by simp [u0]) (by simp [u5]) (by simp [u6]) (by simp [u7]) (by simp [u8]) (by simp)) ?_
          rintro ⟨ex, t2⟩ g3 ⟨rfl, x3, ⟨L, T, z1, z2, z3, z4, z5, z6, z7, z8, z9⟩, f3⟩
          have eq : ∀ z, seenP l y k z ↔ causeP l y z := fun z => by
            unfold seenP causeP
            rw [hf]
            constructor
            · rintro ⟨j, a, h1, h2, h3, h4⟩; exact ⟨j, a, h1, by omega, h3, h4⟩
            · rintro ⟨j, a, h1, h2, h3, h4⟩; exact ⟨j, a, h1, by omega, h3, h4⟩
          simp [J_precentorref23_Causes_8]
          refine Tells.ok (hQ2 _ _ (.inr ⟨by simp, rfl, x3, ⟨L, T, z1, z2, z3, fun z => by rw [z4, eq], z5, z6, z7, fun z => by rw [z8, eq], z9⟩, fun z hz => ?_⟩))
          refine (f3 z (by omega)).trans ?_
          simp only [upd]
          repeat rw [if_neg (by omega)]
          exact fr z hz
        · have e1 : ((mid m).1 == y.1 && (mid m).2 == y.2) = false := by rw [twoEqL]; simpa using hq
          have e2 : ¬ ((mid m).1 = y.1 ∧ (mid m).2 = y.2) := fun z => hq (Prod.ext z.1 z.2)
          have e3 : (!(mid m).1 == y.1 || !(mid m).2 == y.2) = true := by rw [← Bool.not_and, e1]; rfl
          rw [e3]
          simp
          refine next (by simp [isSent, hq]) g2 _ x2 ?_ ?_ ?_ fun z hz => ?_
          iterate 3 simp [u8, u5, u6]
          simp only [upd]
          repeat rw [if_neg (by omega)]
          exact fr z hz
      · have e : m.sent = false := by simpa using hs
        simp [e]
        refine next (by simp [isSent, e]) g1 _ .refl (by simp [u8]) (by simp [u5]) (by simp [u6]) fun z hz => ?_
        simp only [upd]
        repeat rw [if_neg (by omega)]
        exact fr z hz
    · simp at hc
      rw [List.take_of_length_le (by omega)] at hno
      have hf := firstS_none hno
      have nc : ∀ z, ¬ causeP l y z := fun z ⟨j, a, _, q, _⟩ => by rw [hf] at q; omega
      refine Tells.ok (hQ2 _ _ (.inr ⟨by simp, rfl, xx, ⟨L0, T0, by simpa [u5] using sL, rise, hL, fun z => ⟨.inl, fun q => q.elim id fun q => absurd q (nc z)⟩, by simpa [u6] using gT, tn, hT, fun z => ⟨.inl, fun q => q.elim id fun q => absurd q (nc z)⟩, [], by simp⟩, fun z hz => ?_⟩))
      simp only [upd]
      repeat rw [if_neg (by omega)]
      exact fr z hz
  · exact ⟨0, t8, by omega, x0, t5, t6, sl, gt, by simp, fun _ _ => rfl⟩

theorem ref_Causes (hX : OnlyKnown X) {h : Heap} {v : AVal} {l : List Mk} (o : Sl mkR h v l) (hl : l.length ≤ 100) (x : Int × Int) : Tells (fun q => acallX Try.prog X q F_precentorref23_Causes [v, .agg [I x.1, I x.2]] h) fun r h' =>
    ∃ L, Sl idR h' r L ∧ Rise2 L ∧ (∀ z, z ∈ L ↔ Rch (causeP l) x z) ∧ L.length ≤ 100 ∧ Ext [] h h' := by
  refine R_precentorref23_Causes _ _ (hX _ _ rfl) ?_
  refine Tells.prot fun Q' hQ => ?_
  unfold S_precentorref23_Causes
  simp
  refine Tells.box (cs := idC x) (by rfl) (by rfl) fun h1 bx ox x1 lx => ?_
  have oxe := ox.1
  simp only [idC] at oxe
  simp [oxe]
  refine Tells.lit (r := idR) (xs := [x]) (css := [[I x.1, I x.2]]) (by rfl) ⟨rfl, trivial⟩ (by rfl) (by simp) (bsl1_agg (by rfl) (by rfl)) fun v1 h2 g1 x2 hb => ?_
  have x02 := x1.trans x2
  try simp
  refine Tells.bind (Tells.loop (fun n t g => ∃ (i : Nat) (L T : Ids), t 0 = v ∧ t 7 = I i ∧ i ≤ T.length ∧ i + n = l.length + 1 ∧ Ext [] h g ∧ Sl idR g (t 5) L ∧ Rise2 L ∧ (∀ z, z ∈ L → z ∈ l.map mid) ∧ Gl idR h g (t 6) T ∧ T.Nodup ∧ (∀ z, z ∈ T → z = x ∨ z ∈ l.map mid) ∧
      x ∈ T ∧ (∀ z, z ∈ L → Rch (causeP l) x z ∧ z ∈ T) ∧ (∀ z, z ∈ T → z = x ∨ Rch (causeP l) x z) ∧ (∀ (i' : Nat) (y z : Int × Int), i' < i → T[i']? = some y → causeP l y z → z ∈ L ∧ z ∈ T))
    (Q := fun p g => p.1 = .exit 0 ∧ Ext [] h g ∧ ∃ L, Sl idR g (p.2 5) L ∧ Rise2 L ∧ (∀ z, z ∈ L ↔ Rch (causeP l) x z) ∧ L.length ≤ 100) ?_ (l.length + 1) _ _ ?_) ?_
  · rintro n t g ⟨i, L, T, t0, t7, hiT, hi, xx, sL, rL, mL, gT, nT, mT, hxT, cL, cT, cP⟩
    have bL : L.length ≤ 100 := by
      have := nodup_sub_len (rise_nodup rL) mL
      simp at this; omega
    have bT : T.length ≤ l.length + 1 := by
      have := nodup_sub_len (m := x :: l.map mid) nT fun z hz => by rcases mT z hz with q | q <;> simp [q] at q ⊢ <;> simp [q]
      simpa using this
    refine Tells.prot fun Q2 hQ2 => ?_
    unfold L_precentorref23_Causes_1
    simp [t7, gT.1.len]
    refine Tells.cb (fun hc => ?_) (fun hc => ?_)
    · simp at hc
      obtain ⟨y, hy⟩ : ∃ y, T[i]? = some y := ⟨_, List.getElem?_eq_getElem hc⟩
      have w : IntKind.i64.wrap ((i : Int) + 1) = i + 1 := wrap_id (by omega) (by omega)
      simp [J_precentorref23_Causes_2]
      refine Tells.bind (refC_find hX (h := h) (x := x) (y := y) (i := i) o hl xx hy sL rL mL gT nT mT (by simp [t0]) (by simp) (by simp) (by simp [t7]) (by simp)) ?_
      rintro ⟨ex, u⟩ g2 ⟨rfl, x2', ⟨L2, T2, z1, z2, z3, z4, z5, z6, z7, z8, r, z9⟩, fr⟩
      have u0 : u 0 = v := (fr 0 (by decide)).trans (by simp [t0])
      have u7 : u 7 = I i := (fr 7 (by decide)).trans (by simp [t7])
      have hyx : y = x ∨ Rch (causeP l) x y := cT y (List.mem_of_getElem? hy)
      have hcz : ∀ z, causeP l y z → Rch (causeP l) x z := fun z hz => by
        rcases hyx with q | q
        · rw [← q]; exact .one hz
        · exact .step q hz
      simp [J_precentorref23_Causes_3, u7, w]
      refine Tells.ok (hQ2 _ _ (.inl ⟨rfl, n - 1, by omega, i + 1, L2, T2, by simp [u0], by simp, by rw [z9]; simp; omega, by omega, x2', by simpa using z1, z2, z3, by simpa using z5, z6, z7, (z8 x).2 (.inl hxT), fun z hz => ?_, fun z hz => ?_, fun i' y' z hi' hy' hcc => ?_⟩))
      · rcases (z4 z).1 hz with q | q
        · exact ⟨(cL z q).1, (z8 z).2 (.inl (cL z q).2)⟩
        · exact ⟨hcz z q, (z8 z).2 (.inr q)⟩
      · rcases (z8 z).1 hz with q | q
        · exact cT z q
        · exact .inr (hcz z q)
      · by_cases q : i' = i
        · subst q
          rw [z9, List.getElem?_append_left hc, hy] at hy'
          cases hy'
          exact ⟨(z4 z).2 (.inr hcc), (z8 z).2 (.inr hcc)⟩
        · rw [z9, List.getElem?_append_left (by omega)] at hy'
          obtain ⟨a, b⟩ := cP i' y' z (by omega) hy' hcc
          exact ⟨(z4 z).2 (.inl a), (z8 z).2 (.inl b)⟩
    · simp at hc
      refine Tells.ok (hQ2 _ _ (.inr ⟨by simp, rfl, xx, L, by simpa using sL, rL, fun z => ⟨fun hz => (cL z hz).1, fun hz => ?_⟩, bL⟩))
      have key : ∀ y z, y ∈ T → causeP l y z → z ∈ L ∧ z ∈ T := fun y z hy hcc => by
        obtain ⟨i', hi'⟩ := List.mem_iff_getElem?.1 hy
        exact cP i' y z (by have := (List.getElem?_eq_some_iff.1 hi').1; omega) hi' hcc
      have : z ∈ L ∧ z ∈ T := by
        induction hz with
        | one q => exact key _ _ hxT q
        | step _ q ih => exact key _ _ ih.2 q
      exact this.1
  · exact ⟨0, [], [x], by simp, by simp, by simp, by omega, x02, by simpa using Sl.nil, List.Pairwise.nil, by simp, by simpa using g1.back x1.next, by simp, by simp, by simp, by simp, by simp, fun i' y z hh => by omega⟩
  · rintro ⟨ex, t⟩ g ⟨rfl, xx, L, sl, rise, mem, len⟩
    simp [J_precentorref23_Causes_0]
    exact Tells.ok (hQ _ _ ⟨L, by simpa using sl, rise, mem, len, xx⟩)
end
end Go.Proofs.Ytochkdifpgelmaa

/-! Plain law: who may come next, told by the rows themselves. -/
namespace Go.Proofs.Ytochkdifpgelmaa
open Go.Ab

/-- All that stand ahead of x in the row are out. -/
def aheadB (out : Ids) (x : Int × Int) (r : Ids) : Bool := (r.take (posF r x - 1).toNat).all fun y => decide (y ∈ out)
def freeB (R : List Ids) (out : Ids) (x : Int × Int) : Bool := !decide (x ∈ out) && R.all (aheadB out x)

theorem cnt_same {α β : Type} {T : α → β → Prop} {p : α → Bool} {q : β → Bool} (h : ∀ r a, T r a → (q a = true ↔ p r = true)) : ∀ {R : List α} {A : List β}, All2 T R A → cntB q A = cntB p R
  | [], [], _ => rfl
  | r :: R, a :: A, k => by
    rw [cntB_cons, cntB_cons, cnt_same h k.2]
    congr 1
    by_cases z : p r = true
    · rw [if_pos z, if_pos ((h r a k.1).2 z)]
    · rw [if_neg z, if_neg fun w => z ((h r a k.1).1 w)]
  | [], _ :: _, k => k.elim
  | _ :: _, [], k => k.elim

theorem idx_mid {p a : Ids} {x : Int × Int} (hn : (p ++ x :: a).Nodup) : idxK (p ++ x :: a) x = p.length := idxK_of hn (by simp)

/-- Free is, who stands first wherever it is left. -/
theorem free_iff {R A : List Ids} {out : Ids} (I : LInv R A out) (hn : ∀ a, a ∈ R → a.Nodup) {x : Int × Int} (hx : x ∈ R.flatten) : freeB R out x = true ↔ okF R.flatten A x = true ∧ ∃ a, a ∈ A ∧ a.head? = some x := by
  constructor
  · intro hf
    unfold freeB at hf
    rw [Bool.and_eq_true] at hf
    obtain ⟨h1, h2⟩ := hf
    have hxo : x ∉ out := by simpa using h1
    have h2' : ∀ r, r ∈ R → ∀ y, y ∈ r.take (posF r x - 1).toNat → y ∈ out := fun r hr y hy => by
      have := List.all_eq_true.1 h2 r hr
      unfold aheadB at this
      have := List.all_eq_true.1 this y hy
      simpa using this
    -- in each row that has it, it stands first of those left
    have hd : ∀ r a, r ∈ R → (∃ p : Ids, r = p ++ a ∧ p.Sublist out ∧ ∀ z, z ∈ a → z ∉ out) → x ∈ a → a.head? = some x := by
      rintro r a hr ⟨p, e, s, n⟩ hxa
      cases a with
      | nil => simp at hxa
      | cons y t =>
        by_cases q : y = x
        · rw [q]; rfl
        · exfalso
          have hxt : x ∈ t := by
            rcases List.mem_cons.1 hxa with z | z
            · exact absurd z.symm q
            · exact z
          have hnr := hn r hr
          have hxr : x ∈ r := by rw [e]; simp [hxt]
          obtain ⟨j, hj⟩ := List.mem_iff_getElem?.1 hxt
          have i2 : idxK r x = p.length + (j + 1) := idxK_of hnr (by
            rw [e, List.getElem?_append_right (by omega)]
            have : p.length + (j + 1) - p.length = j + 1 := by omega
            rw [this]; simpa using hj)
          have hy : y ∈ r.take (posF r x - 1).toNat := by
            rw [posF_in hxr, i2]
            refine List.mem_of_getElem? (i := p.length) ?_
            rw [List.getElem?_take, if_pos (by omega), e]
            simp
          exact n y (by simp) (h2' r hr y hy)
    have hA : All2 (fun r a => r ∈ R ∧ ∃ p : Ids, r = p ++ a ∧ p.Sublist out ∧ ∀ z, z ∈ a → z ∉ out) R A := All2.imp' I.rows fun r a hr k => ⟨hr, k⟩
    have e : cntB (fun a => decide (a.head? = some x)) A = cntB (fun a => decide (x ∈ a)) R := by
      refine cnt_same (T := fun r a => r ∈ R ∧ ∃ p : Ids, r = p ++ a ∧ p.Sublist out ∧ ∀ z, z ∈ a → z ∉ out) ?_ hA
      rintro r a ⟨hr, p, h3, h4, h5⟩
      simp only [decide_eq_true_eq]
      constructor
      · intro hh
        rw [h3]; simp [List.mem_of_mem_head? hh]
      · intro hxr
        refine hd r a hr ⟨p, h3, h4, h5⟩ ?_
        rw [h3] at hxr
        rcases List.mem_append.1 hxr with z | z
        · exact absurd (h4.subset z) hxo
        · exact z
    refine ⟨?_, ?_⟩
    · unfold okF
      rw [occ_heads, occ_flat x hn, e]
      simp
    · obtain ⟨a, ha, hxa⟩ := I.left hx hxo
      obtain ⟨r, hr, k⟩ := all2_mem I.rows a ha
      exact ⟨a, ha, hd r a hr k hxa⟩
  · rintro ⟨hok, a0, ha0, hx0⟩
    obtain ⟨r0, hr0, p0, e0, s0, n0⟩ := all2_mem I.rows a0 ha0
    have hxo : x ∉ out := n0 x (List.mem_of_mem_head? hx0)
    have hfi := I.first hn hok hxo
    unfold freeB
    rw [Bool.and_eq_true]
    refine ⟨by simpa using hxo, List.all_eq_true.2 fun r hr => ?_⟩
    obtain ⟨a, ha, ⟨p, h1, h2, h3⟩, h4⟩ := all2_mem' hfi r hr
    unfold aheadB
    refine List.all_eq_true.2 fun y hy => ?_
    by_cases hxr : x ∈ r
    · have hxa : x ∈ a := by
        rw [h1] at hxr
        rcases List.mem_append.1 hxr with z | z
        · exact absurd (h2.subset z) hxo
        · exact z
      have hh := h4 hxa
      cases a with
      | nil => simp at hxa
      | cons z t =>
        simp at hh
        subst hh
        have hnr := hn r hr
        rw [h1] at hnr
        have : (posF r z - 1).toNat = p.length := by
          rw [posF_in hxr, h1, idx_mid hnr]; omega
        rw [this, h1, List.take_left'  rfl] at hy
        simpa using h2.subset hy
    · rw [posF_out hxr] at hy
      simp at hy

/-- The first free one of a rising row is the least. -/
theorem find_best {R A : List Ids} {out all : Ids} (I : LInv R A out) (hn : ∀ a, a ∈ R → a.Nodup) (hr : Rise2 all) (hm : ∀ z, z ∈ all ↔ z ∈ R.flatten) : all.find? (freeB R out) = bestG (okF R.flatten A) none A := by
  have hin : ∀ a x, a ∈ A → a.head? = some x → x ∈ R.flatten := fun a x ha hx => by
    obtain ⟨r, hr, p, e, s, n⟩ := all2_mem I.rows a ha
    exact List.mem_flatten.2 ⟨r, hr, by rw [e]; simp [List.mem_of_mem_head? hx]⟩
  have hl := bestG_least (ok := okF R.flatten A) (A := A) (acc := none)
  cases hb : bestG (okF R.flatten A) none A with
  | none =>
    rw [hb] at hl
    rw [List.find?_eq_none]
    intro x hx hf
    obtain ⟨h1, a, ha, hh⟩ := (free_iff I hn ((hm x).1 hx)).1 hf
    rw [hl.2 a x ha hh] at h1; cases h1
  | some y =>
    rw [hb] at hl
    rcases bestG_some hb with q | ⟨hok, a, ha, hh⟩
    · cases q
    have hy := hin a y ha hh
    have hfy : freeB R out y = true := (free_iff I hn hy).2 ⟨hok, a, ha, hh⟩
    cases hz : all.find? (freeB R out) with
    | none =>
      rw [List.find?_eq_none] at hz
      exact absurd hfy (hz y ((hm y).2 hy))
    | some z =>
      obtain ⟨hfz, az, bz, e, hno⟩ := List.find?_eq_some_iff_append.1 hz
      have hzm : z ∈ all := by rw [e]; simp
      obtain ⟨k1, c, hc, k2⟩ := (free_iff I hn ((hm z).1 hzm)).1 hfz
      rcases hl.2 c z hc k2 k1 with q | q
      · rw [q]
      · exfalso
        have hym := (hm y).2 hy
        rw [e] at hym hr
        rcases List.mem_append.1 hym with w | w
        · have := hno y w
          rw [hfy] at this; cases this
        · rcases List.mem_cons.1 w with w | w
          · rw [w, lt2_irrefl] at q; cases q
          · have := List.rel_of_pairwise_cons (List.pairwise_append.1 hr).2.1 w
            rw [lt2_asymm this] at q; cases q

theorem flat_mid {l : List Mk} {z : Int × Int} (h : z ∈ (rowsF l).flatten) : z ∈ l.map mid := by
  obtain ⟨r, hr, hz⟩ := List.mem_flatten.1 h
  obtain ⟨c, _, rfl⟩ := List.mem_map.1 hr
  rw [firF, mem_ddF, heardL] at hz
  obtain ⟨m, hm, rfl⟩ := List.mem_map.1 hz
  exact List.mem_map_of_mem (List.mem_filter.1 hm).1
theorem rise_len {R : List Ids} {all : Ids} (hr : Rise2 all) (hm : ∀ z, z ∈ all ↔ z ∈ R.flatten) : all.length = (ddF R.flatten).length := by
  have h1 := nodup_sub_len (rise_nodup hr) fun z hz => (mem_ddF _ _).2 ((hm z).1 hz)
  have h2 := nodup_sub_len (nodup_ddF R.flatten) fun z hz => (hm z).2 ((mem_ddF _ _).1 hz)
  omega
end Go.Proofs.Ytochkdifpgelmaa

/-! What trace's Line tells. -/
namespace Go.Proofs.Ytochkdifpgelmaa
open Go.Ab

theorem set_mid {α : Type} {f : α → α} {A : List α} {i : Nat} {a : α} (h : A[i]? = some a) : ((A.take i).map f ++ A.drop i)[i]? = some a ∧ ((A.take i).map f ++ A.drop i).set i (f a) = (A.take (i + 1)).map f ++ A.drop (i + 1) := by
  have hc := (List.getElem?_eq_some_iff.1 h).1
  have hlen : ((A.take i).map f).length = i := by simp; omega
  have hdr : A.drop i = a :: A.drop (i + 1) := by
    rw [List.drop_eq_getElem_cons hc]
    rw [List.getElem?_eq_getElem hc] at h
    cases h; rfl
  constructor
  · rw [List.getElem?_append_right (by omega), hlen, hdr]; simp
  · rw [List.set_append_right _ _ (by omega), hlen, hdr, List.take_add_one, h]; simp

theorem twoEq {x y : Int × Int} : (y.1 == x.1 && y.2 == x.2) = decide (y = x) := by
  obtain ⟨a, b⟩ := x
  obtain ⟨c, d⟩ := y
  by_cases q1 : c = a <;> by_cases q2 : d = b <;> simp [q1, q2]

section
variable {X : XTab}
theorem cutL {h h1 g : Heap} {all ov : AVal} {vs : List AVal} {A : List (List (Int × Int))} {out : List (Int × Int)} {x : Int × Int} {bb : Nat} {t : T} (fam : Fam idR h g all vs A) (hl : A.length ≤ 100) (ob : Ob g bb (idC x)) (lo : ∀ b, b ∈ all.blks → b < h1.next) (lv : ∀ v, v ∈ vs → ∀ b, b ∈ v.blks → b < h1.next)
    (go : Gl idR h1 g ov out) (wo : Wr h1 g ov) (ex : Ext [] h g) (t110 : t 110 = all) (t111 : t 111 = I A.length) (t112 : t 112 = I 0) (t4 : t 4 = all) (t12 : t 12 = .ptr bb 0) :
    Tells (fun q => loopN (L_trace_Line_7 Try.prog (acallX Try.prog X q) q) q t g) fun z g' => z.1 = .exit 10 ∧ (∃ vs', Fam idR h g' all vs' (A.map (cutF x)) ∧ ∀ v, v ∈ vs' → ∀ b, b ∈ v.blks → b < h1.next) ∧ Gl idR h1 g' ov out ∧ Wr h1 g' ov ∧ Ext [] h g' ∧ (∀ d cs, Ob g d cs → Ob g' d cs) ∧ g'.next = g.next ∧ ∀ i, i ≤ 17 → z.2 i = t i := by
  refine Tells.loop (fun n t' g' => ∃ (i : Nat) (us : List AVal), t' 112 = I i ∧ i + n = A.length ∧ Fam idR h g' all us ((A.take i).map (cutF x) ++ A.drop i) ∧ (∀ v, v ∈ us → ∀ b, b ∈ v.blks → b < h1.next) ∧ Gl idR h1 g' ov out ∧ Wr h1 g' ov ∧ Ext [] h g' ∧ (∀ d cs, Ob g d cs → Ob g' d cs) ∧ g'.next = g.next ∧
    ∀ i, i ≤ 17 ∨ i = 110 ∨ i = 111 → t' i = t i) ?_ A.length _ _ ?_
  · rintro n u g1 ⟨i, us, u112, hi, fm, lu, go1, wo1, ex1, obs, nx, fr⟩
    have u110 : u 110 = all := (fr 110 (by decide)).trans t110
    have u111 : u 111 = I A.length := (fr 111 (by decide)).trans t111
    have u4 : u 4 = all := (fr 4 (by decide)).trans t4
    have u12 : u 12 = .ptr bb 0 := (fr 12 (by decide)).trans t12
    have ob1 := obs _ _ ob
    refine Tells.prot fun Q2 hQ2 => ?_
    unfold L_trace_Line_7
    simp [u112, u111]
    refine Tells.cb (fun hc => ?_) (fun hc => ?_)
    · simp at hc
      obtain ⟨a, hy⟩ : ∃ a, A[i]? = some a := ⟨_, List.getElem?_eq_getElem hc⟩
      obtain ⟨hat, hset⟩ := set_mid (f := cutF x) hy
      have w : IntKind.i64.wrap ((i : Int) + 1) = i + 1 := wrap_id (by omega) (by omega)
      obtain ⟨v, b1, p, B, hv, q1, q2, q3, gv, wv⟩ := fm.at hat
      have same : cutF x a = a → (A.take i).map (cutF x) ++ A.drop i = (A.take (i + 1)).map (cutF x) ++ A.drop (i + 1) := fun e => by
        rw [← hset, e, set_self hat]
      simp [J_trace_Line_8, u112, u110, q1, q2, q3, gv.1.len]
      cases a with
      | nil =>
        simp [J_trace_Line_9, u112, w]
        refine Tells.ok (hQ2 _ _ (.inl ⟨rfl, n - 1, by omega, i + 1, us, by simp, by omega, by rw [← same rfl]; exact fm, lu, go1, wo1, ex1, obs, nx, fun j hj => ?_⟩))
        simp only [upd]
        repeat rw [if_neg (by omega)]
        exact fr j hj
      | cons z r =>
        obtain ⟨b3, p3, B3, r1, r2, r3, r4, r5, _⟩ := id_at gv.1 (i := 0) (x := z) rfl
        have r1' : ixsR 2 v (.int .i64 0) = some (.ptr b3 p3) := r1
        have hpos : (0 : Int) < ((r.length : Int) + 1) := by omega
        have oe := ob1.1
        simp only [idC] at oe
        simp [hpos, r1', r2, r3, r4, u12, oe, aBin_eql2 two30]
        by_cases hzx : z = x
        · subst hzx
          have hcut : cutF z (z :: r) = (z :: r).drop 1 := by simp [cutF]
          obtain ⟨v', s1, s2, s3⟩ := gl_dropI (n := 2) (lo := 1) gv rfl (by simp)
          have s1' : slcR 2 v (some (.int .i64 1)) none none = some v' := s1
          obtain ⟨b4, p4, g2, m1, m2, m3, m4, m5, m6, m7⟩ := fm.cut id_flat hv s2 s3
          cases q1.symm.trans m1
          rw [← hcut, hset] at m3
          simp [u4, s1', q1, m2, J_trace_Line_9, u112, w]
          refine Tells.ok (hQ2 _ _ (.inl ⟨rfl, n - 1, by omega, i + 1, us.set i v', by simp, by omega, m3, fun v2 hv2 b hb => ?_, ?_, ?_, m4 _ ex1, fun d cs o => m5 d cs (obs d cs o), by rw [m7.next]; exact nx, fun j hj => ?_⟩))
          · rcases List.mem_or_eq_of_mem_set hv2 with k | k
            · exact lu v2 k b hb
            · rw [k, s3] at hb; exact lu v (List.mem_of_getElem? hv) b hb
          · refine go1.extC id_flat m7 (Apart.of fun c hc' => ?_)
            have k1 := (wo1 c hc').1
            have k2 := root_le g1 b1
            have k3 := lo b1 m6
            omega
          · intro c hc'
            obtain ⟨w1, w2, w3⟩ := wo1 c hc'
            refine ⟨?_, by rw [m7.n0]; exact w2, by rw [m7.next]; exact w3⟩
            unfold Heap.root
            rw [m7.cls]
            exact w1
          · simp only [upd]
            repeat rw [if_neg (by omega)]
            exact fr j hj
        · have hzx' : (z.1 == x.1 && z.2 == x.2) = false := by rw [twoEq]; simpa using hzx
          have hcut : cutF x (z :: r) = z :: r := by simp [cutF, hzx]
          have hne : ¬ (z.1 = x.1 ∧ z.2 = x.2) := fun q => hzx (Prod.ext q.1 q.2)
          simp [hzx', hne, J_trace_Line_9, u112, w]
          refine Tells.ok (hQ2 _ _ (.inl ⟨rfl, n - 1, by omega, i + 1, us, by simp, by omega, by rw [← same hcut]; exact fm, lu, go1, wo1, ex1, obs, nx, fun j hj => ?_⟩))
          simp only [upd]
          repeat rw [if_neg (by omega)]
          exact fr j hj
    · simp at hc
      refine Tells.ok (hQ2 _ _ (.inr ⟨by simp, rfl, ⟨us, ?_, lu⟩, go1, wo1, ex1, obs, nx, fun j hj => ?_⟩))
      · rw [List.take_of_length_le (by omega), List.drop_of_length_le (by omega)] at fm
        simpa using fm
      · simp only [upd]
        rw [if_neg (by omega)]
        exact fr j (.inl hj)
  · exact ⟨0, vs, by simp [t112], by omega, by simpa using fam, lv, go, wo, ex, fun _ _ o => o, rfl, fun _ _ => rfl⟩

theorem cut_len (x : Int × Int) (a : List (Int × Int)) : (cutF x a).length ≤ a.length := by
  cases a with
  | nil => simp [cutF]
  | cons y r => simp only [cutF]; split <;> simp
theorem trace_Line (hX : OnlyKnown X) {h : Heap} {v : AVal} {l : List Mk} (o : Sl mkR h v l) (hl : l.length ≤ 100) : Tells (fun q => acallX Try.prog X q F_trace_Line [v] h) fun r h' =>
    ∃ ov, r = .tup [ov, .bool (lineF (rowsF l)).isSome] ∧ Sl idR h' ov ((lineF (rowsF l)).getD []) ∧ Ext [] h h' := by
  refine R_trace_Line _ (hX _ _ rfl) ?_
  refine Tells.prot fun Q' hQ => ?_
  unfold S_trace_Line
  simp
  refine Tells.bind (trace_rows hX o hl) ?_
  rintro all h1 ⟨⟨vs, fam⟩, x1⟩
  have hR := rowsF_len l
  have hrl : ∀ c, c ∈ rowsF l → c.length ≤ 100 := fun c hc => Nat.le_trans (row_len hc) hl
  have hK : (ddF (rowsF l).flatten).length ≤ 10000 := by
    refine Nat.le_trans (ddF_len _) ?_
    have : ∀ R : List (List (Int × Int)), (∀ c, c ∈ R → c.length ≤ 100) → R.flatten.length ≤ R.length * 100 := by
      intro R
      induction R with
      | nil => intro _; simp
      | cons a R ih =>
        intro hc
        have h1 := hc a (by simp)
        have h2 := ih fun c hcc => hc c (by simp [hcc])
        simp only [List.flatten_cons, List.length_append, List.length_cons]
        omega
    have := this _ hrl
    omega
  have hres : lineG (rowsF l).flatten (ddF (rowsF l).flatten).length (rowsF l) [] = lineF (rowsF l) := rfl
  generalize rowsF l = R at *
  have orr := fam.rd
  obtain ⟨m0, x2⟩ := Mp.make (K := kTwo Try.prog 30 two30) h1
  have nx : h1.next < (h1.new true []).next := m0.ob.lt
  simp [orr.len]
  refine Tells.bind (heardO (b := h1.next) (orr.ext x2) (by omega) hrl m0 (by simp) (by simp) (by simp) (by simp)) ?_
  rintro ⟨ex, t0⟩ h2 ⟨rfl, mh, x3, f0⟩
  have k4 : t0 4 = all := (f0 4 (by decide)).trans (by simp)
  have k5 : t0 5 = .mp h1.next := (f0 5 (by decide)).trans (by simp)
  have x13 : Ext [] h1 h2 := x2.then x3 (by simp)
  have blt : ∀ b, b ∈ all.blks → b < h1.next := fun b hb => (fam.wr b hb).2.2
  have vlt : ∀ v, v ∈ vs → ∀ b, b ∈ v.blks → b < h1.next := fun v hv b hb => by
    obtain ⟨i, hi⟩ := List.mem_iff_getElem?.1 hv
    exact fam.fi.lt hi b hb
  have fam2 := fam.e x13
  simp [J_trace_Line_0]
  refine Tells.bind (Tells.loop (fun n t g => ∃ (A : List (List (Int × Int))) (out : List (Int × Int)) (us : List AVal), t 4 = all ∧ t 5 = .mp h1.next ∧ out.length + n = (ddF R.flatten).length ∧ Mp (kTwo Try.prog 30 two30) g h1.next (ddF R.flatten) (occ R.flatten) ∧ Fam idR h g all us A ∧ A.length ≤ 100 ∧
      (∀ v, v ∈ us → ∀ b, b ∈ v.blks → b < h1.next) ∧ Gl idR h1 g (t 10) out ∧ Wr h1 g (t 10) ∧ Ext [] h g ∧ h1.next < g.next ∧ lineG R.flatten n A out = lineF R)
    (Q := fun p g => Ext [] h g ∧ ((p.1 = .exit 4 ∧ ∃ out, lineF R = some out ∧ Sl idR g (p.2 10) out) ∨ (p.1 = .ret ∧ lineF R = none ∧ p.2 2 = .nils ∧ p.2 3 = .bool false))) ?_ (ddF R.flatten).length _ _ ?_) ?_
  · rintro n t g ⟨A, out, us, t4, t5, hn, M, fm, hA, lu, go, wo, x, hgt, hres⟩
    refine Tells.prot fun Q2 hQ2 => ?_
    unfold L_trace_Line_2
    simp [go.1.len, t5, M.len]
    refine Tells.cb (fun hc => ?_) (fun hc => ?_)
    · simp at hc
      obtain ⟨n, rfl⟩ : ∃ k, n = k + 1 := ⟨n - 1, by omega⟩
      simp only [lineG] at hres
      obtain ⟨mn, y1⟩ := Mp.make (K := kTwo Try.prog 30 two30) g
      have lt1 : g.next < (g.new true []).next := mn.ob.lt
      simp [J_trace_Line_3]
      refine Tells.new fun g1 bb ob y2 l2 => ?_
      have fm1 := (fm.e y1).e y2
      have orr1 := fm1.rd
      have hlen := fm1.rd.len
      simp [t4, hlen]
      refine Tells.bind (nextL (b := g.next) orr1 hA (mn.e y2) (by simp) (by simp) (by simp) (by simp)) ?_
      rintro ⟨ex, u⟩ g2 ⟨rfl, mn2, y3, f1⟩
      have u4 : u 4 = all := (f1 4 rfl).trans (by simp [t4])
      have u5 : u 5 = .mp h1.next := (f1 5 rfl).trans (by simp [t5])
      have u11 : u 11 = .mp g.next := (f1 11 rfl).trans (by simp)
      have u12 : u 12 = .ptr bb 0 := (f1 12 rfl).trans (by simp)
      have u13 : u 13 = .bool false := (f1 13 rfl).trans (by simp)
      have nm : ∀ z, z ∈ [g.next] → g1.isM z = true ∨ g1.next ≤ z := fun z hz => by simp at hz; subst hz; exact .inl (mn.e y2).ob.2.1
      have fm2 := fm1.ext y3 nm
      have M2 := ((M.e y1).e y2).ext y3 (by simp; omega)
      have ob2 := ob.ext y3 (by simp; omega)
      have go2 := ((go.e y1).e y2).extO y3 nm
      have wo2 := ((wo.ext y1).ext y2).ext y3
      have x02 := ((x.trans y1).trans y2).then y3 (by simp; have := x.next; omega)
      simp [J_trace_Line_4, u4, fm2.rd.len]
      refine Tells.bind (bestL hX (bn := g.next) (bh := h1.next) (bb := bb) (y0 := (0, 0)) fm2.rd hA mn2 M2 ob2 (by omega) (by omega) (by simp) (by simp) (by simp) (by simp [u11]) (by simp [u5]) (by simp [u12]) (by simp [u13])) ?_
      rintro ⟨ex, w⟩ g3 ⟨rfl, y4, w13, ⟨y, oby, hby⟩, f2⟩
      have w4 : w 4 = all := (f2 4 (by decide)).trans (by simp [u4])
      have w5 : w 5 = .mp h1.next := (f2 5 (by decide)).trans (by simp [u5])
      have w10 : w 10 = t 10 := (f2 10 (by decide)).trans (by simp; exact (f1 10 rfl).trans (by simp))
      have w12 : w 12 = .ptr bb 0 := (f2 12 (by decide)).trans (by simp [u12])
      have nm4 : ∀ z, z ∈ [bb] → g2.isM z = true ∨ g2.next ≤ z := fun z hz => by simp at hz; subst hz; exact .inl ob2.2.1
      have fm3 := fm2.ext y4 nm4
      have M3 := M2.ext y4 (by simp; omega)
      have go3 := go2.extO y4 nm4
      have wo3 := wo2.ext y4
      have x03 := x02.then y4 (by simp; have := x.next; omega)
      have w13' : w 13 = .bool (bestG (okF R.flatten A) none A).isSome := w13
      cases hb : bestG (okF R.flatten A) none A with
      | none =>
        rw [hb] at hres w13'
        simp [J_trace_Line_5, w13']
        exact Tells.ok (hQ2 _ _ (.inr ⟨by simp, x03, .inr ⟨rfl, hres.symm, by simp, by simp⟩⟩))
      | some b =>
        have := hby b hb
        subst this
        rw [hb] at hres w13'
        have oe := oby.1
        simp only [idC] at oe
        simp [J_trace_Line_5, w13', J_trace_Line_6, w10, w12, oe]
        have hol : out.length < 2 ^ 33 := by omega
        have h13 : h1.next ≤ g3.next := by have := y1.next; have := y2.next; have := y3.next; have := y4.next; omega
        refine Tells.app1W (r := idR) (c := [I y.1, I y.2]) (x := y) go3 wo3 (by rfl) (by rfl) (by rfl) (by rfl) (by rfl) hol (by decide) h13 fun ov2 g4 go4 wo4 y5 y5' z5 => ?_
        have own : ∀ b, b ∈ (t 10).blks → h1.next ≤ b := fun b hb => Nat.le_trans (wo3 b hb).1 (root_le g3 b)
        have fm4 := fm3.extD y5 (fun b hb hbo => by have := own b hbo; have := blt b hb; omega) (fun v hv b hb hbo => by have := own b hbo; have := lu v hv b hb; omega)
        have nob : ∀ d cs, Ob g3 d cs → d ∉ (t 10).blks := fun d cs od => go3.1.ob od
        have ob4 := oby.ext y5 (nob _ _ oby)
        have M4 := M3.ext y5 (nob _ _ M3.ob)
        have x04 := x03.then y5 (fun b hb => .inr (by have := own b hb; have := x1.next; omega))
        simp [w4, fm4.rd.len]
        refine Tells.bind (cutL (h1 := h1) (x := y) (bb := bb) fm4 hA ob4 blt lu go4 wo4 x04 (by simp) (by simp) (by simp) (by simp [w4]) (by simp [w12])) ?_
        rintro ⟨ex, w2⟩ g5 ⟨rfl, ⟨us2, fm5, lu5⟩, go5, wo5, x05, obs, nx5, f3⟩
        have w24 : w2 4 = all := (f3 4 (by decide)).trans (by simp [w4])
        have w25 : w2 5 = .mp h1.next := (f3 5 (by decide)).trans (by simp [w5])
        have w210 : w2 10 = ov2 := (f3 10 (by decide)).trans (by simp)
        simp
        refine Tells.ok (hQ2 _ _ (.inl ⟨rfl, n, by omega, A.map (cutF y), out ++ [y], us2, w24, w25, by simp; omega, ⟨obs _ _ M4.ob, M4.nd, M4.out⟩, fm5, by simpa using hA, lu5, by simpa [w210] using go5, by simpa [w210] using wo5, x05, by have := y1.next; have := y2.next; have := y3.next; have := y4.next; have := y5.next; omega, hres⟩))
    · simp at hc
      have : n = 0 := by omega
      subst this
      simp only [lineG] at hres
      exact Tells.ok (hQ2 _ _ (.inr ⟨by simp, x, .inl ⟨rfl, out, hres.symm, by simpa using go.1⟩⟩))
  · exact ⟨R, [], vs, by simp [k4], by simp [k5], by simp, mh, fam2, by omega, vlt, by simpa using Gl.nil, fun b hb => by simp [AVal.blks] at hb, x1.trans x13, by have := x3.next; omega, hres⟩
  · rintro ⟨ex, t⟩ g ⟨x, ⟨rfl, out, ho, so⟩ | ⟨rfl, ho, t2, t3⟩⟩
    · simp [J_trace_Line_1]
      exact Tells.ok (hQ _ _ ⟨t 10, by simp [ho], by simpa [ho] using so, x⟩)
    · have t2' : t 2 = .nils := t2
      have t3' : t 3 = .bool false := t3
      simp [t2', t3']
      exact Tells.ok (hQ _ _ ⟨.nils, by simp [ho], by simpa [ho] using Sl.nil, x⟩)
end
end Go.Proofs.Ytochkdifpgelmaa

/-! What the document's Line tells: the loops. -/
namespace Go.Proofs.Ytochkdifpgelmaa
open Go.Ab

section
variable {X : XTab}
theorem refline_k (hX : OnlyKnown X) {g : Heap} {ov lv : AVal} {out r : Ids} {R : List Ids} {i : Nat} {n : Int} {t : T} (oo : Sl idR g ov out) (ho : out.length ≤ 100) (ol : Sl (rowR idR) g lv R) (hi : R[i]? = some r) (hr : r.length ≤ 100) (hn : n ≤ r.length) (t5 : t 5 = ov) (t6 : t 6 = lv) (t13 : t 13 = I i) (t14 : t 14 = I n) (t15 : t 15 = I 0) (t12 : t 12 = .bool true) :
    Tells (fun q => loopN (L_precentorref23_Line_13 Try.prog (acallX Try.prog X q) q) q t g) fun p g' => p.1 = .exit 10 ∧ Ext [] g g' ∧ p.2 12 = .bool ((r.take n.toNat).all fun y => decide (y ∈ out)) ∧ ∀ j, j ≤ 11 ∨ j = 13 → p.2 j = t j := by
  refine Tells.loop (fun m t' g' => ∃ (k : Nat) (b : Bool), t' 15 = I k ∧ k + m = n.toNat ∧ Ext [] g g' ∧ t' 12 = .bool b ∧ b = ((r.take k).all fun y => decide (y ∈ out)) ∧ ∀ j, j ≤ 11 ∨ j = 13 ∨ j = 14 → t' j = t j) ?_ n.toNat _ _ ?_
  · rintro m u g1 ⟨k, b, u15, hk, x, u12, hb, fr⟩
    have u5 : u 5 = ov := (fr 5 (by decide)).trans t5
    have u6 : u 6 = lv := (fr 6 (by decide)).trans t6
    have u13 : u 13 = I i := (fr 13 (by decide)).trans t13
    have u14 : u 14 = I n := (fr 14 (by decide)).trans t14
    refine Tells.prot fun Q2 hQ2 => ?_
    unfold L_precentorref23_Line_13
    by_cases hkn : (k : Int) < n
    · obtain ⟨y, hy⟩ : ∃ y, r[k]? = some y := ⟨_, List.getElem?_eq_getElem (by omega)⟩
      have htk : r.take (k + 1) = r.take k ++ [y] := by rw [List.take_add_one, hy]; rfl
      cases b with
      | true =>
        obtain ⟨b1, p1, B1, w1, q1, q2, q3, q4⟩ := row_at (ol.ext x) hi
        obtain ⟨b2, p2, B2, r1, r2, r3, r4, r5, r6, r7⟩ := id_at q4 hy
        have w : IntKind.i64.wrap ((k : Int) + 1) = k + 1 := wrap_id (by omega) (by omega)
        simp [u15, u14, hkn, u12, J_precentorref23_Line_14, u5, u6, u13, q1, q2, q3, r1, r2, r3, r4]
        refine Tells.bind (ref_atC hX (oo.ext x) (by omega) y) ?_
        rintro _ g2 ⟨rfl, x2⟩
        have e : decide (y ∈ out) = decide (1 ≤ posF out y) := by
          by_cases q : y ∈ out
          · have : 1 ≤ posF out y := by rw [posF_in q]; omega
            simp [q, this]
          · have : ¬ 1 ≤ posF out y := by rw [posF_out q]; omega
            simp [q, this]
        simp [J_precentorref23_Line_15, u15, w]
        refine Tells.ok (hQ2 _ _ (.inl ⟨rfl, m - 1, by omega, k + 1, decide (y ∈ out), by simp, by omega, x.trans x2, by simp [e], ?_, fun j hj => ?_⟩))
        · rw [htk, List.all_append, ← hb]; simp
        · simp only [upd]
          repeat rw [if_neg (by omega)]
          exact fr j hj
      | false =>
        simp [u15, u14, hkn, u12]
        refine Tells.ok (hQ2 _ _ (.inr ⟨by simp, rfl, x, ?_, fun j hj => ?_⟩))
        · have : ((r.take n.toNat).all fun y => decide (y ∈ out)) = false := by
            have : r.take n.toNat = r.take k ++ (r.drop k).take (n.toNat - k) := by
              have := List.take_add (l := r) (i := k) (j := n.toNat - k)
              rw [← this]; congr 1; omega
            rw [this, List.all_append, ← hb, Bool.false_and]
          rw [this]; simp [u12]
        · simp only [upd]
          repeat rw [if_neg (by omega)]
          exact fr j (by omega)
    · have hkn2 : k = n.toNat := by omega
      have e : ((r.take n.toNat).all fun y => decide (y ∈ out)) = b := by rw [hb, hkn2]
      have key : ∀ t' : T, t' 12 = .bool b → (∀ j, j ≤ 11 ∨ j = 13 → t' j = t j) → Q2 (.exit 10, t') g1 := fun t' e12 ej => hQ2 _ _ (.inr ⟨by simp, rfl, x, by rw [e]; exact e12, ej⟩)
      simp [u15, u14, hkn]
      refine Tells.ok (key _ ?_ fun j hj => ?_)
      · simp [u12]
      simp only [upd]
      repeat rw [if_neg (by omega)]
      exact fr j (by omega)
  · exact ⟨0, true, t15, by omega, .refl, t12, by simp, fun _ _ => rfl⟩

theorem refline_r (hX : OnlyKnown X) {g : Heap} {av ov lv : AVal} {all out : Ids} {R : List Ids} {e : Nat} {x : Int × Int} {f : Bool} {t : T} (oa : Sl idR g av all) (oo : Sl idR g ov out) (ho : out.length ≤ 100) (ol : Sl (rowR idR) g lv R) (hR : R.length ≤ 100) (hr : ∀ r, r ∈ R → r.length ≤ 100) (hx : all[e]? = some x) (t4 : t 4 = av) (t5 : t 5 = ov) (t6 : t 6 = lv) (t11 : t 11 = I e) (t12 : t 12 = .bool f) (t13 : t 13 = I 0) :
    Tells (fun q => loopN (L_precentorref23_Line_10 Try.prog (acallX Try.prog X q) q) q t g) fun p g' => p.1 = .exit 8 ∧ Ext [] g g' ∧ p.2 12 = .bool (f && R.all (aheadB out x)) ∧ ∀ j, j ≤ 11 → p.2 j = t j := by
  refine Tells.loop (fun m t' g' => ∃ (i : Nat) (b : Bool), t' 13 = I i ∧ i + m = R.length ∧ Ext [] g g' ∧ t' 12 = .bool b ∧ b = (f && (R.take i).all (aheadB out x)) ∧ ∀ j, j ≤ 11 → t' j = t j) ?_ R.length _ _ ?_
  · rintro m u g1 ⟨i, b, u13, hi, x1, u12, hb, fr⟩
    have u4 : u 4 = av := (fr 4 (by decide)).trans t4
    have u5 : u 5 = ov := (fr 5 (by decide)).trans t5
    have u6 : u 6 = lv := (fr 6 (by decide)).trans t6
    have u11 : u 11 = I e := (fr 11 (by decide)).trans t11
    refine Tells.prot fun Q2 hQ2 => ?_
    unfold L_precentorref23_Line_10
    by_cases hin : i < R.length
    · obtain ⟨r, hir⟩ : ∃ r, R[i]? = some r := ⟨_, List.getElem?_eq_getElem hin⟩
      have htk : R.take (i + 1) = R.take i ++ [r] := by rw [List.take_add_one, hir]; rfl
      have hrl := hr r (List.mem_of_getElem? hir)
      cases b with
      | true =>
        obtain ⟨b1, p1, B1, w1, q1, q2, q3, q4⟩ := row_at (ol.ext x1) hir
        obtain ⟨b2, p2, B2, r1, r2, r3, r4, r5, r6, r7⟩ := id_at (oa.ext x1) hx
        have w : IntKind.i64.wrap ((i : Int) + 1) = i + 1 := wrap_id (by omega) (by omega)
        simp [u13, u6, (ol.ext x1).len, hin, u12, J_precentorref23_Line_11, u4, u11, q1, q2, q3, r1, r2, r3, r4]
        refine Tells.cbE (ref_atC hX q4 (by omega) x) ?_
        rintro _ g2 ⟨rfl, x2⟩
        have hpl := posF_le r x
        try simp
        refine Tells.bind (refline_k hX (out := out) (R := R) (r := r) (i := i) (n := posF r x - 1) ((oo.ext x1).ext x2) ho ((ol.ext x1).ext x2) hir hrl (by omega) (by simp [u5]) (by simp [u6]) (by simp [u13]) (by simp) (by simp) (by simp [u12])) ?_
        rintro ⟨ex, v⟩ g3 ⟨rfl, x3, v12, f3⟩
        have v13 : v 13 = I i := (f3 13 (by decide)).trans (by simp [u13])
        have v12 : v 12 = .bool (aheadB out x r) := v12
        simp [J_precentorref23_Line_12, v13, w]
        refine Tells.ok (hQ2 _ _ (.inl ⟨rfl, m - 1, by omega, i + 1, aheadB out x r, by simp, by omega, (x1.trans x2).trans x3, by simp [v12], ?_, fun j hj => ?_⟩))
        · rw [htk, List.all_append, ← Bool.and_assoc, ← hb]; simp
        · have := f3 j (.inl hj)
          simp only at this
          simp only [upd] at this ⊢
          repeat rw [if_neg (by omega)]
          rw [this]
          repeat rw [if_neg (by omega)]
          exact fr j hj
      | false =>
        simp [u13, u6, (ol.ext x1).len, hin, u12]
        refine Tells.ok (hQ2 _ _ (.inr ⟨by simp, rfl, x1, ?_, fun j hj => ?_⟩))
        · have : (f && R.all (aheadB out x)) = false := by
            rw [← List.take_append_drop i R, List.all_append, ← Bool.and_assoc, ← hb, Bool.false_and]
          rw [this]; simp [u12]
        · simp only [upd]
          repeat rw [if_neg (by omega)]
          exact fr j hj
    · have : i = R.length := by omega
      subst this
      rw [List.take_length] at hb
      have key : ∀ t' : T, t' 12 = .bool b → (∀ j, j ≤ 11 → t' j = t j) → Q2 (.exit 8, t') g1 := fun t' e12 ej => hQ2 _ _ (.inr ⟨by simp, rfl, x1, by rw [← hb]; exact e12, ej⟩)
      simp [u13, u6, (ol.ext x1).len]
      refine Tells.ok (key _ (by simp [u12]) fun j hj => ?_)
      simp only [upd]
      repeat rw [if_neg (by omega)]
      exact fr j hj
  · exact ⟨0, f, t13, by omega, .refl, t12, by simp, fun _ _ => rfl⟩
end
end Go.Proofs.Ytochkdifpgelmaa

/-! What the document's Line tells. -/
namespace Go.Proofs.Ytochkdifpgelmaa
open Go.Ab

section
variable {X : XTab}
theorem refline_x (hX : OnlyKnown X) {g : Heap} {av ov lv : AVal} {all out : Ids} {R : List Ids} {t : T} (oa : Sl idR g av all) (ha : all.length ≤ 100) (oo : Sl idR g ov out) (ho : out.length ≤ 100) (ol : Sl (rowR idR) g lv R) (hR : R.length ≤ 100) (hr : ∀ r, r ∈ R → r.length ≤ 100) (t4 : t 4 = av) (t5 : t 5 = ov) (t6 : t 6 = lv) (t10 : t 10 = I (-1)) (t11 : t 11 = I 0) :
    Tells (fun q => loopN (L_precentorref23_Line_6 Try.prog (acallX Try.prog X q) q) q t g) fun p g' => p.1 = .exit 6 ∧ Ext [] g g' ∧ ((p.2 10 = I (-1) ∧ all.find? (freeB R out) = none) ∨ ∃ (e : Nat) (x : Int × Int), p.2 10 = I e ∧ all[e]? = some x ∧ all.find? (freeB R out) = some x) ∧ ∀ j, j ≤ 9 → p.2 j = t j := by
  refine Tells.loop (fun m t' g' => ∃ (e : Nat), t' 11 = I e ∧ e + m = all.length ∧ Ext [] g g' ∧ (∀ j, j ≤ 9 → t' j = t j) ∧ ((t' 10 = I (-1) ∧ ∀ x, x ∈ all.take e → freeB R out x = false) ∨ ∃ (p : Nat) (x : Int × Int), t' 10 = I p ∧ all[p]? = some x ∧ all.find? (freeB R out) = some x)) ?_ all.length _ _ ?_
  · rintro m u g1 ⟨e, u11, he, x1, fr, hst⟩
    have u4 : u 4 = av := (fr 4 (by decide)).trans t4
    have u5 : u 5 = ov := (fr 5 (by decide)).trans t5
    have u6 : u 6 = lv := (fr 6 (by decide)).trans t6
    refine Tells.prot fun Q2 hQ2 => ?_
    unfold L_precentorref23_Line_6
    rcases hst with ⟨u10, hno⟩ | ⟨p, y, u10, hp, hf⟩
    · by_cases hc : e < all.length
      · obtain ⟨x, hx⟩ : ∃ x, all[e]? = some x := ⟨_, List.getElem?_eq_getElem hc⟩
        have htk : all.take (e + 1) = all.take e ++ [x] := by rw [List.take_add_one, hx]; rfl
        have w : IntKind.i64.wrap ((e : Int) + 1) = e + 1 := wrap_id (by omega) (by omega)
        obtain ⟨b2, p2, B2, r1, r2, r3, r4, r5, r6, r7⟩ := id_at (oa.ext x1) hx
        simp [u11, u4, (oa.ext x1).len, hc, u10, J_precentorref23_Line_7, u5, r1, r2, r3, r4]
        refine Tells.bind (ref_atC hX (oo.ext x1) (by omega) x) ?_
        rintro _ g2 ⟨rfl, x2⟩
        have ed : (!decide (x ∈ out)) = decide (posF out x < 1) := by
          by_cases q : x ∈ out
          · have : ¬ posF out x < 1 := by rw [posF_in q]; omega
            simp [q, this]
          · have : posF out x < 1 := by rw [posF_out q]; omega
            simp [q, this]
        have ed2 : decide (posF out x - 1 < 0) = !decide (x ∈ out) := by
          rw [ed]; exact decide_eq_decide.2 (by omega)
        simp
        refine Tells.bind (refline_r hX (all := all) (out := out) (R := R) (e := e) (x := x) (f := !decide (x ∈ out)) ((oa.ext x1).ext x2) ((oo.ext x1).ext x2) ho ((ol.ext x1).ext x2) hR hr hx (by simp [u4]) (by simp [u5]) (by simp [u6]) (by simp [u11]) (by rw [← ed2]; simp) (by simp)) ?_
        rintro ⟨ex, v⟩ g3 ⟨rfl, x3, v12, f3⟩
        have v11 : v 11 = I e := (f3 11 (by decide)).trans (by simp [u11])
        have v10 : v 10 = I (-1) := (f3 10 (by decide)).trans (by simp [u10])
        have v12 : v 12 = .bool (freeB R out x) := v12
        have x13 := (x1.trans x2).trans x3
        cases hf : freeB R out x with
        | true =>
          rw [hf] at v12
          simp [J_precentorref23_Line_9, v12, v11, J_precentorref23_Line_8, w]
          refine Tells.ok (hQ2 _ _ (.inl ⟨rfl, m - 1, by omega, e + 1, by simp, by omega, x13, fun j hj => ?_, .inr ⟨e, x, by simp, hx, ?_⟩⟩))
          · have := f3 j (by omega)
            simp only at this
            simp only [upd] at this ⊢
            repeat rw [if_neg (by omega)]
            rw [this]
            repeat rw [if_neg (by omega)]
            exact fr j hj
          · rw [List.find?_eq_some_iff_append]
            refine ⟨hf, all.take e, all.drop (e + 1), ?_, fun a ha => by rw [hno a ha]; rfl⟩
            have : all.drop e = x :: all.drop (e + 1) := by
              rw [List.drop_eq_getElem_cons hc]
              rw [List.getElem?_eq_getElem hc] at hx
              cases hx; rfl
            rw [← this, List.take_append_drop]
        | false =>
          rw [hf] at v12
          simp [J_precentorref23_Line_9, v12, v11, J_precentorref23_Line_8, w]
          refine Tells.ok (hQ2 _ _ (.inl ⟨rfl, m - 1, by omega, e + 1, by simp, by omega, x13, fun j hj => ?_, .inl ⟨by simp [v10], fun a ha => ?_⟩⟩))
          · have := f3 j (by omega)
            simp only at this
            simp only [upd] at this ⊢
            repeat rw [if_neg (by omega)]
            rw [this]
            repeat rw [if_neg (by omega)]
            exact fr j hj
          · rw [htk] at ha
            rcases List.mem_append.1 ha with q | q
            · exact hno a q
            · simp at q; rw [q]; exact hf
      · have hel : e = all.length := by omega
        rw [List.take_of_length_le (by omega)] at hno
        simp [u11, u4, (oa.ext x1).len, hc]
        refine Tells.ok (hQ2 _ _ (.inr ⟨by simp, rfl, x1, .inl ⟨by simp [u10], List.find?_eq_none.2 fun a ha => by rw [hno a ha]; simp⟩, fun j hj => ?_⟩))
        simp only [upd]
        repeat rw [if_neg (by omega)]
        exact fr j hj
    · have done : ∀ t' : T, t' 10 = I p → (∀ j, j ≤ 9 → t' j = t j) → Q2 (.exit 6, t') g1 := fun t' e10 ej => hQ2 _ _ (.inr ⟨by simp, rfl, x1, .inr ⟨p, y, e10, hp, hf⟩, ej⟩)
      by_cases hc : e < all.length
      · simp [u11, u4, (oa.ext x1).len, hc, u10]
        refine Tells.ok (done _ (by simp [u10]) fun j hj => ?_)
        simp only [upd]
        repeat rw [if_neg (by omega)]
        exact fr j hj
      · simp [u11, u4, (oa.ext x1).len, hc, u10]
        refine Tells.ok (done _ (by simp [u10]) fun j hj => ?_)
        simp only [upd]
        repeat rw [if_neg (by omega)]
        exact fr j hj
  · exact ⟨0, t11, by omega, .refl, fun _ _ => rfl, .inl ⟨t10, by simp⟩⟩

theorem refline_n (hX : OnlyKnown X) {h g : Heap} {av lv : AVal} {all : Ids} {R : List Ids} {t : T} (xh : Ext [] h g) (oa : Sl idR g av all) (ha : all.length ≤ 100) (rise : Rise2 all) (hm : ∀ z, z ∈ all ↔ z ∈ R.flatten) (hn : ∀ a, a ∈ R → a.Nodup) (ol : Sl (rowR idR) g lv R) (hR : R.length ≤ 100) (hr : ∀ r, r ∈ R → r.length ≤ 100) (t4 : t 4 = av) (t5 : t 5 = .nils) (t6 : t 6 = lv) :
    Tells (fun q => loopN (L_precentorref23_Line_2 Try.prog (acallX Try.prog X q) q) q t g) fun p g' => Ext [] h g' ∧ ((p.1 = .exit 4 ∧ ∃ out, lineF R = some out ∧ Sl idR g' (p.2 5) out) ∨ (p.1 = .ret ∧ lineF R = none ∧ p.2 2 = .nils ∧ p.2 3 = .bool false)) := by
  have hlen := rise_len rise hm
  refine Tells.loop (fun n t' g' => ∃ (A : List Ids) (out : Ids), t' 4 = av ∧ t' 6 = lv ∧ Gl idR g g' (t' 5) out ∧ out.length + n = (ddF R.flatten).length ∧ LInv R A out ∧ lineG R.flatten n A out = lineF R ∧ Ext [] g g') ?_ (ddF R.flatten).length _ _ ?_
  · rintro n u g1 ⟨A, out, u4, u6, go, hn', inv, hres, x1⟩
    refine Tells.prot fun Q2 hQ2 => ?_
    unfold L_precentorref23_Line_2
    simp [go.1.len, u4, (oa.ext x1).len]
    refine Tells.cb (fun hc => ?_) (fun hc => ?_)
    · simp at hc
      obtain ⟨n, rfl⟩ : ∃ k, n = k + 1 := ⟨n - 1, by omega⟩
      simp only [lineG] at hres
      have fb := find_best inv hn rise hm
      simp [J_precentorref23_Line_3]
      refine Tells.bind (refline_x hX (all := all) (out := out) (R := R) (oa.ext x1) ha go.1 (by omega) (ol.ext x1) hR hr (by simp [u4]) (by simp) (by simp [u6]) (by simp) (by simp)) ?_
      rintro ⟨ex, v⟩ g2 ⟨rfl, x2, hst, f3⟩
      have v4 : v 4 = av := (f3 4 (by decide)).trans (by simp [u4])
      have v5 : v 5 = u 5 := (f3 5 (by decide)).trans (by simp)
      have v6 : v 6 = lv := (f3 6 (by decide)).trans (by simp [u6])
      rcases hst with ⟨v10, hf⟩ | ⟨e, x, v10, hx, hf⟩
      · have v10 : v 10 = I (-1) := v10
        rw [hf] at fb
        rw [← fb] at hres
        simp [J_precentorref23_Line_4, v10]
        exact Tells.ok (hQ2 _ _ (.inr ⟨by simp, xh.trans (x1.trans x2), .inr ⟨rfl, hres.symm, by simp, by simp⟩⟩))
      · have v10 : v 10 = I e := v10
        rw [hf] at fb
        rw [← fb] at hres
        have hbs := bestG_some fb.symm
        obtain ⟨b2, p2, B2, r1, r2, r3, r4, r5, r6, r7⟩ := id_at ((oa.ext x1).ext x2) hx
        have e0 : ¬ ((e : Int) < 0) := by omega
        simp [J_precentorref23_Line_4, v10, e0, J_precentorref23_Line_5, v4, v5, r1, r2, r3, r4]
        refine Tells.app1 (r := idR) (c := [I x.1, I x.2]) (x := x) (go.e x2) (by rfl) (by rfl) (by rfl) (by rfl) (by rfl) (by omega) (by decide) (x1.trans x2).next fun s3 h3 g3 x3 y3 z3 => ?_
        try simp
        rcases hbs with q | ⟨q1, q2⟩
        · cases q
        obtain ⟨_, inv2⟩ := inv.step hn q1 q2
        exact Tells.ok (hQ2 _ _ (.inl ⟨rfl, n, by omega, A.map (cutF x), out ++ [x], by simp [v4], by simp [v6], by simpa using g3, by simp; omega, inv2, hres, y3 _ (x1.trans x2)⟩))
    · simp at hc
      have : n = 0 := by omega
      subst this
      simp only [lineG] at hres
      exact Tells.ok (hQ2 _ _ (.inr ⟨by simp, xh.trans x1, .inl ⟨rfl, out, hres.symm, by simpa using go.1⟩⟩))
  · exact ⟨R, [], t4, t6, by rw [t5]; exact Gl.nil, by simp, LInv.start, rfl, .refl⟩

theorem refline_all (hX : OnlyKnown X) {g : Heap} {av lv : AVal} {L r : Ids} {l : List Mk} {R : List Ids} {i : Nat} {t : T} (hl : l.length ≤ 100) (oa : Sl idR g av L) (rise : Rise2 L) (hL : ∀ z, z ∈ L → z ∈ l.map mid) (ol : Sl (rowR idR) g lv R) (hi : R[i]? = some r) (hr : r.length ≤ 100) (hrm : ∀ z, z ∈ r → z ∈ l.map mid) (t4 : t 4 = av) (t6 : t 6 = lv) (t8 : t 8 = I i) (t9 : t 9 = I 0) :
    Tells (fun q => loopN (L_precentorref23_Line_19 Try.prog (acallX Try.prog X q) q) q t g) fun p g' => p.1 = .exit 2 ∧ Ext [] g g' ∧ (∃ M, Sl idR g' (p.2 4) M ∧ Rise2 M ∧ ∀ z, z ∈ M ↔ z ∈ L ∨ z ∈ r) ∧ ∀ j, j ≤ 3 ∨ (5 ≤ j ∧ j ≤ 8) → p.2 j = t j := by
  refine Tells.loop (fun m t' g' => ∃ (k : Nat) (M : Ids), t' 9 = I k ∧ k + m = r.length ∧ Ext [] g g' ∧ Sl idR g' (t' 4) M ∧ Rise2 M ∧ (∀ z, z ∈ M ↔ z ∈ L ∨ z ∈ r.take k) ∧ ∀ j, j ≤ 3 ∨ (5 ≤ j ∧ j ≤ 8) → t' j = t j) ?_ r.length _ _ ?_
  · rintro m u g1 ⟨k, M, u9, hk, x1, sM, rM, mM, fr⟩
    have u6 : u 6 = lv := (fr 6 (by decide)).trans t6
    have u8 : u 8 = I i := (fr 8 (by decide)).trans t8
    have bM : M.length ≤ 100 := by
      have := nodup_sub_len (rise_nodup rM) (m := l.map mid) fun z hz => by
        rcases (mM z).1 hz with q | q
        · exact hL z q
        · exact hrm z (List.mem_of_mem_take q)
      simp at this; omega
    obtain ⟨b1, p1, B1, w1, q1, q2, q3, q4⟩ := row_at (ol.ext x1) hi
    refine Tells.prot fun Q2 hQ2 => ?_
    unfold L_precentorref23_Line_19
    simp [u9, u6, u8, q1, q2, q3, q4.len]
    refine Tells.cb (fun hc => ?_) (fun hc => ?_)
    · simp at hc
      obtain ⟨y, hy⟩ : ∃ y, r[k]? = some y := ⟨_, List.getElem?_eq_getElem hc⟩
      have htk : r.take (k + 1) = r.take k ++ [y] := by rw [List.take_add_one, hy]; rfl
      obtain ⟨b2, p2, B2, r1, r2, r3, r4, r5, r6, r7⟩ := id_at q4 hy
      have w : IntKind.i64.wrap ((k : Int) + 1) = k + 1 := wrap_id (by omega) (by omega)
      simp [J_precentorref23_Line_20, u9, u6, u8, q1, q2, q3, r1, r2, r3, r4]
      refine Tells.bind (ref_put hX sM (by omega) rM y) ?_
      rintro lv2 g2 ⟨sM2, x2⟩
      obtain ⟨lr, lm, ll⟩ := layF_ok (y := y) rM
      simp [J_precentorref23_Line_21, u9, w]
      refine Tells.ok (hQ2 _ _ (.inl ⟨rfl, m - 1, by omega, k + 1, layF M y, by simp, by omega, x1.trans x2, by simpa using sM2, lr, fun z => ?_, fun j hj => ?_⟩))
      · rw [lm, mM, htk, List.mem_append, List.mem_singleton]
        constructor
        · rintro (q | q | q)
          · exact .inr (.inr q)
          · exact .inl q
          · exact .inr (.inl q)
        · rintro (q | q | q)
          · exact .inr (.inl q)
          · exact .inr (.inr q)
          · exact .inl q
      · simp only [upd]
        repeat rw [if_neg (by omega)]
        exact fr j hj
    · simp at hc
      rw [List.take_of_length_le (by omega)] at mM
      refine Tells.ok (hQ2 _ _ (.inr ⟨by simp, rfl, x1, ⟨M, by simpa using sM, rM, mM⟩, fun j hj => ?_⟩))
      simp only [upd]
      repeat rw [if_neg (by omega)]
      exact fr j hj
  · exact ⟨0, L, t9, by omega, .refl, by rw [t4]; exact oa, rise, by simp, fun _ _ => rfl⟩

theorem ref_Line (hX : OnlyKnown X) {h : Heap} {v : AVal} {l : List Mk} (o : Sl mkR h v l) (hl : l.length ≤ 100) : Tells (fun q => acallX Try.prog X q F_precentorref23_Line [v] h) fun r h' =>
    ∃ ov, r = .tup [ov, .bool (lineF (rowsF l)).isSome] ∧ Sl idR h' ov ((lineF (rowsF l)).getD []) ∧ Ext [] h h' := by
  refine R_precentorref23_Line _ (hX _ _ rfl) ?_
  refine Tells.prot fun Q' hQ => ?_
  unfold S_precentorref23_Line
  simp
  refine Tells.bind (ref_clients hX o hl) ?_
  rintro cv h1 ⟨oc, x1⟩
  have hRl := rowsF_len l
  have hC : (cliF l).length ≤ 100 := by simp [rowsF] at hRl; omega
  have hrl : ∀ c, c ∈ rowsF l → c.length ≤ 100 := fun c hc => Nat.le_trans (row_len hc) hl
  have hRe : rowsF l = (cliF l).map (firF l) := rfl
  have fm : ∀ z, z ∈ (rowsF l).flatten → z ∈ l.map mid := fun z hz => flat_mid hz
  try simp
  refine Tells.bind (Tells.loop (fun n t g => ∃ (i : Nat) (L : Ids), t 0 = v ∧ t 5 = .nils ∧ t 7 = cv ∧ t 8 = I i ∧ i + n = (cliF l).length ∧ Ext [] h1 g ∧ Gl (rowR idR) h1 g (t 6) ((rowsF l).take i) ∧ Sl idR g (t 4) L ∧ Rise2 L ∧ ∀ z, z ∈ L ↔ z ∈ ((rowsF l).take i).flatten)
    (Q := fun p g => p.1 = .exit 0 ∧ Ext [] h1 g ∧ p.2 5 = .nils ∧ Sl (rowR idR) g (p.2 6) (rowsF l) ∧ ∃ L, Sl idR g (p.2 4) L ∧ Rise2 L ∧ ∀ z, z ∈ L ↔ z ∈ (rowsF l).flatten) ?_ (cliF l).length _ _ ?_) ?_
  · rintro n t g ⟨i, L, t0, t5, t7, t8, hi, x, gl, sL, rL, mL⟩
    refine Tells.prot fun Q2 hQ2 => ?_
    unfold L_precentorref23_Line_16
    simp [t8, t7, (oc.ext x).len]
    refine Tells.cb (fun hc => ?_) (fun hc => ?_)
    · simp at hc
      obtain ⟨c, hci⟩ : ∃ c, (cliF l)[i]? = some c := ⟨_, List.getElem?_eq_getElem hc⟩
      obtain ⟨b1, p, B, q1, q2, q3⟩ := (oc.ext x).atI hci
      have hri : (rowsF l)[i]? = some (firF l c) := by rw [hRe, List.getElem?_map, hci]; rfl
      have hrm := List.mem_of_getElem? hri
      have htk : (rowsF l).take (i + 1) = (rowsF l).take i ++ [firF l c] := by rw [List.take_add_one, hri]; rfl
      have w : IntKind.i64.wrap ((i : Int) + 1) = i + 1 := wrap_id (by omega) (by omega)
      have sub : ∀ z, z ∈ ((rowsF l).take i).flatten → z ∈ l.map mid := fun z hz => by
        obtain ⟨a, ha, hza⟩ := List.mem_flatten.1 hz
        exact fm z (List.mem_flatten.2 ⟨a, List.mem_of_mem_take ha, hza⟩)
      simp [J_precentorref23_Line_17, t0, t7, t8, q1, q2, q3]
      refine Tells.bind (ref_first hX ((o.ext x1).ext x) hl c) ?_
      rintro av g2 ⟨ga, x2⟩
      try simp
      refine Tells.app1 (r := rowR idR) (c := [av]) (x := firF l c) (gl.e x2) ga.1.cells ga.1.known ⟨av, rfl, ga.1⟩ (by rfl) (by rfl) (by simp; omega) (by decide) (x.trans x2).next fun s3 g3 gl3 x3 y3 z3 => ?_
      have hi2 : ((rowsF l).take i ++ [firF l c])[i]? = some (firF l c) := by
        rw [← htk, List.getElem?_take, if_pos (by omega)]; exact hri
      refine Tells.bind (refline_all hX (av := t 4) (lv := s3) (L := L) (r := firF l c) (l := l) (R := (rowsF l).take i ++ [firF l c]) (i := i) hl ((sL.ext x2).ext x3) rL (fun z hz => sub z ((mL z).1 hz)) gl3.1 hi2 (hrl _ hrm) (fun z hz => fm z (List.mem_flatten.2 ⟨_, hrm, hz⟩)) (by simp) (by simp) (by simp [t8]) (by simp)) ?_
      rintro ⟨ex, u⟩ g4 ⟨rfl, x4, ⟨M, sM, rM, mM⟩, f4⟩
      have u0 : u 0 = v := (f4 0 (by decide)).trans (by simp [t0])
      have u5 : u 5 = .nils := (f4 5 (by decide)).trans (by simp [t5])
      have u6 : u 6 = s3 := (f4 6 (by decide)).trans (by simp)
      have u7 : u 7 = cv := (f4 7 (by decide)).trans (by simp [t7])
      have u8 : u 8 = I i := (f4 8 (by decide)).trans (by simp [t8])
      simp [J_precentorref23_Line_18, u8, w]
      refine Tells.ok (hQ2 _ _ (.inl ⟨rfl, n - 1, by omega, i + 1, M, by simp [u0], by simp [u5], by simp [u7], by simp, by omega, (y3 _ (x.trans x2)).trans x4, by rw [htk]; simpa [u6] using gl3.e x4, by simpa using sM, rM, fun z => ?_⟩))
      rw [mM, mL, htk, List.flatten_append, List.mem_append]
      simp
    · simp at hc
      have e1 : (rowsF l).take i = rowsF l := List.take_of_length_le (by rw [hRe, List.length_map]; omega)
      rw [e1] at gl mL
      exact Tells.ok (hQ2 _ _ (.inr ⟨by simp, rfl, x, by simp [t5], by simpa using gl.1, L, by simpa using sL, rL, mL⟩))
  · exact ⟨0, [], by simp, by simp, by simp, by simp, by omega, .refl, by simpa using Gl.nil, by simpa using Sl.nil, List.Pairwise.nil, by simp⟩
  · rintro ⟨ex, t⟩ g ⟨rfl, x, t5, ol, L, sL, rL, mL⟩
    have lL : L.length ≤ 100 := by
      have := nodup_sub_len (rise_nodup rL) (m := l.map mid) fun z hz => fm z ((mL z).1 hz)
      simp at this; omega
    simp [J_precentorref23_Line_0]
    refine Tells.bind (refline_n hX (h := h) (all := L) (R := rowsF l) (x1.trans x) sL lL rL mL (fun a ha => nodup_row ha) ol (by omega) hrl rfl t5 rfl) ?_
    rintro ⟨ex, u⟩ g2 ⟨x2, ⟨rfl, out, ho, so⟩ | ⟨rfl, ho, u2, u3⟩⟩
    · simp [J_precentorref23_Line_1]
      exact Tells.ok (hQ _ _ ⟨u 5, by simp [ho], by simpa [ho] using so, x2⟩)
    · have u2' : u 2 = .nils := u2
      have u3' : u 3 = .bool false := u3
      simp [u2', u3']
      exact Tells.ok (hQ _ _ ⟨.nils, by simp [ho], by simpa [ho] using Sl.nil, x2⟩)
end
end Go.Proofs.Ytochkdifpgelmaa

/-! What the document's Causal tells. -/
namespace Go.Proofs.Ytochkdifpgelmaa
open Go.Ab

/-- None that stands behind k is among C. -/
theorem cau_pos {a C : Ids} (hn : a.Nodup) {k : Nat} : (∀ y, y ∈ C → posF a y ≤ k + 1) ↔ ∀ (j : Nat) (z : Int × Int), k < j → a[j]? = some z → z ∉ C := by
  constructor
  · intro h j z hj hz hC
    have := h z hC
    rw [posF_in (List.mem_of_getElem? hz), idxK_of hn hz] at this
    omega
  · intro h y hy
    by_cases q : y ∈ a
    · rw [posF_in q]
      refine Classical.byContradiction fun hlt => ?_
      exact h (idxK a y) y (by omega) (idx_at q) hy
    · rw [posF_out q]; omega

section
variable {X : XTab}
theorem refcau_in (hX : OnlyKnown X) {g : Heap} {av cv : AVal} {a C : Ids} {k : Nat} {t : T} (oa : Sl idR g av a) (ha : a.length ≤ 100) (oc : Sl idR g cv C) (hC : C.length ≤ 100) (hk : k < a.length) (t5 : t 5 = av) (t7 : t 7 = cv) (t8 : t 8 = I (k + 1)) :
    Tells (fun q => loopN (L_precentorref23_Causal_7 Try.prog (acallX Try.prog X q) q) q t g) fun p g' => Ext [] g g' ∧ ((p.1 = .exit 4 ∧ (∀ (j : Nat) (z : Int × Int), k < j → a[j]? = some z → z ∉ C) ∧ ∀ j, j ≤ 6 → p.2 j = t j) ∨ (p.1 = .ret ∧ (∃ (j : Nat) (z : Int × Int), k < j ∧ a[j]? = some z ∧ z ∈ C) ∧ p.2 2 = .bool false)) := by
  refine Tells.loop (fun n t' g' => ∃ (i : Nat), t' 8 = I i ∧ k < i ∧ i + n = a.length ∧ Ext [] g g' ∧ (∀ (j : Nat) (z : Int × Int), k < j → j < i → a[j]? = some z → z ∉ C) ∧ ∀ j, j ≤ 7 → t' j = t j) ?_ (a.length - (k + 1)) _ _ ?_
  · rintro n u g1 ⟨i, u8, hki, hi, x, hall, fr⟩
    have u5 : u 5 = av := (fr 5 (by decide)).trans t5
    have u7 : u 7 = cv := (fr 7 (by decide)).trans t7
    refine Tells.prot fun Q2 hQ2 => ?_
    unfold L_precentorref23_Causal_7
    simp [u8, u5, (oa.ext x).len]
    refine Tells.cb (fun hc => ?_) (fun hc => ?_)
    · simp at hc
      obtain ⟨y, hy⟩ : ∃ y, a[i]? = some y := ⟨_, List.getElem?_eq_getElem hc⟩
      obtain ⟨b1, p, B, q1, q2, q3, q4, q5, q6, q7⟩ := id_at (oa.ext x) hy
      have w : IntKind.i64.wrap ((i : Int) + 1) = i + 1 := wrap_id (by omega) (by omega)
      simp [J_precentorref23_Causal_8, u8, u5, u7, q1, q2, q3, q4]
      refine Tells.bind (ref_atC hX (oc.ext x) (by omega) y) ?_
      rintro _ g2 ⟨rfl, x2⟩
      have x02 := x.trans x2
      by_cases h1 : y ∈ C
      · have h1' : 1 ≤ posF C y := by rw [posF_in h1]; omega
        simp [h1']
        exact Tells.ok (hQ2 _ _ (.inr ⟨by simp, x02, .inr ⟨rfl, ⟨i, y, hki, hy, h1⟩, by simp⟩⟩))
      · have h1' : ¬ 1 ≤ posF C y := by rw [posF_out h1]; omega
        simp [h1', J_precentorref23_Causal_9, u8, w]
        refine Tells.ok (hQ2 _ _ (.inl ⟨rfl, n - 1, by omega, i + 1, by simp, by omega, by omega, x02, fun j z hj hji hz => ?_, fun j hj => ?_⟩))
        · by_cases q : j = i
          · subst q; rw [hy] at hz; cases hz; exact h1
          · exact hall j z hj (by omega) hz
        · simp only [upd]
          repeat rw [if_neg (by omega)]
          exact fr j hj
    · simp at hc
      refine Tells.ok (hQ2 _ _ (.inr ⟨by simp, x, .inl ⟨rfl, fun j z hj hz => hall j z hj (by have := (List.getElem?_eq_some_iff.1 hz).1; omega) hz, fun j hj => ?_⟩⟩))
      simp only [upd]
      repeat rw [if_neg (by omega)]
      exact fr j (by omega)
  · exact ⟨k + 1, by simp [t8], by omega, by omega, .refl, fun j z h1 h2 => by omega, fun _ _ => rfl⟩

theorem refcau_row (hX : OnlyKnown X) {g : Heap} {v av : AVal} {l : List Mk} {a : Ids} {t : T} (o : Sl mkR g v l) (hl : l.length ≤ 100) (oa : Sl idR g av a) (ha : a.length ≤ 100) (t0 : t 0 = v) (t5 : t 5 = av) (t6 : t 6 = I 0) :
    Tells (fun q => loopN (L_precentorref23_Causal_4 Try.prog (acallX Try.prog X q) q) q t g) fun p g' => Ext [] g g' ∧ ((p.1 = .exit 2 ∧ (∀ (k j : Nat) (x z : Int × Int), k < j → a[k]? = some x → a[j]? = some z → ¬ Rch (causeP l) x z) ∧ ∀ j, j ≤ 4 → p.2 j = t j) ∨ (p.1 = .ret ∧ (∃ (k j : Nat) (x z : Int × Int), k < j ∧ a[k]? = some x ∧ a[j]? = some z ∧ Rch (causeP l) x z) ∧ p.2 2 = .bool false)) := by
  refine Tells.loop (fun n t' g' => ∃ (i : Nat), t' 6 = I i ∧ i + n = a.length ∧ Ext [] g g' ∧ (∀ (k j : Nat) (x z : Int × Int), k < i → k < j → a[k]? = some x → a[j]? = some z → ¬ Rch (causeP l) x z) ∧ ∀ j, j ≤ 5 → t' j = t j) ?_ a.length _ _ ?_
  · rintro n u g1 ⟨i, u6, hi, x, hall, fr⟩
    have u0 : u 0 = v := (fr 0 (by decide)).trans t0
    have u5 : u 5 = av := (fr 5 (by decide)).trans t5
    refine Tells.prot fun Q2 hQ2 => ?_
    unfold L_precentorref23_Causal_4
    simp [u6, u5, (oa.ext x).len]
    refine Tells.cb (fun hc => ?_) (fun hc => ?_)
    · simp at hc
      obtain ⟨y, hy⟩ : ∃ y, a[i]? = some y := ⟨_, List.getElem?_eq_getElem hc⟩
      obtain ⟨b1, p, B, q1, q2, q3, q4, q5, q6, q7⟩ := id_at (oa.ext x) hy
      have w : IntKind.i64.wrap ((i : Int) + 1) = i + 1 := wrap_id (by omega) (by omega)
      simp [J_precentorref23_Causal_5, u0, u6, u5, q1, q2, q3, q4]
      refine Tells.bind (ref_Causes hX (o.ext x) hl y) ?_
      rintro cv g2 ⟨C, sC, rC, mC, lC, x2⟩
      simp [u6, w]
      refine Tells.bind (refcau_in hX (av := av) (cv := cv) (k := i) ((oa.ext x).ext x2) ha sC lC hc (by simp [u5]) (by simp) (by simp)) ?_
      rintro ⟨ex, t2⟩ g3 ⟨x3, ⟨rfl, hag, f3⟩ | ⟨rfl, ⟨j, z, hj, hz, hzC⟩, h2⟩⟩
      · have k6 : t2 6 = I i := (f3 6 (by decide)).trans (by simp [u6])
        simp [J_precentorref23_Causal_6, k6, w]
        refine Tells.ok (hQ2 _ _ (.inl ⟨rfl, n - 1, by omega, i + 1, by simp, by omega, (x.trans x2).trans x3, fun k j x' z hk hkj hx' hz hr => ?_, fun j hj => ?_⟩))
        · by_cases q : k = i
          · subst q; rw [hy] at hx'; cases hx'
            exact hag j z hkj hz ((mC z).2 hr)
          · exact hall k j x' z (by omega) hkj hx' hz hr
        · have : t2 j = _ := f3 j (by omega)
          simp only [upd]
          repeat rw [if_neg (by omega)]
          rw [this]
          simp only [upd]
          repeat rw [if_neg (by omega)]
          exact fr j hj
      · simp
        exact Tells.ok (hQ2 _ _ (.inr ⟨by simp, (x.trans x2).trans x3, .inr ⟨rfl, ⟨i, j, y, z, hj, hy, hz, (mC z).1 hzC⟩, h2⟩⟩))
    · simp at hc
      refine Tells.ok (hQ2 _ _ (.inr ⟨by simp, x, .inl ⟨rfl, fun k j x' z hkj hx' hz => hall k j x' z (by have := (List.getElem?_eq_some_iff.1 hx').1; omega) hkj hx' hz, fun j hj => ?_⟩⟩))
      simp only [upd]
      repeat rw [if_neg (by omega)]
      exact fr j (by omega)
  · exact ⟨0, t6, by omega, .refl, fun k j x z h => by omega, fun _ _ => rfl⟩

theorem ref_Causal (hX : OnlyKnown X) {h : Heap} {v : AVal} {l : List Mk} (o : Sl mkR h v l) (hl : l.length ≤ 100) : Tells (fun q => acallX Try.prog X q F_precentorref23_Causal [v] h) fun r h' => ∃ b : Bool, r = .bool b ∧ (b = true ↔ causalP l) ∧ Ext [] h h' := by
  refine R_precentorref23_Causal _ (hX _ _ rfl) ?_
  refine Tells.prot fun Q' hQ => ?_
  unfold S_precentorref23_Causal
  simp
  refine Tells.bind (ref_clients hX o hl) ?_
  rintro cv h1 ⟨oc, x1⟩
  have hn : ∀ c, (firF l c).Nodup := fun c => nodup_ddF _
  have spec : causalP l ↔ ∀ c, c ∈ cliF l → ∀ (k j : Nat) (x z : Int × Int), k < j → (firF l c)[k]? = some x → (firF l c)[j]? = some z → ¬ Rch (causeP l) x z := by
    unfold causalP rowsF
    constructor
    · intro h c hc k j x z hkj hx hz hr
      have := h (firF l c) (List.mem_map_of_mem hc) k x hx z hr
      rw [posF_in (List.mem_of_getElem? hz), idxK_of (hn c) hz] at this
      omega
    · intro h a ha k x hx y hy
      obtain ⟨c, hc, rfl⟩ := List.mem_map.1 ha
      by_cases q : y ∈ firF l c
      · rw [posF_in q]
        refine Classical.byContradiction fun hlt => ?_
        exact h c hc k (idxK (firF l c) y) x y (by omega) hx (idx_at q) hy
      · rw [posF_out q]; omega
  generalize hCl : cliF l = C at *
  try simp
  refine Tells.bind (Tells.loop (fun n t g => ∃ i : Nat, t 0 = v ∧ t 3 = cv ∧ t 4 = I i ∧ i + n = C.length ∧ Ext [] h1 g ∧ ∀ c, c ∈ C.take i → ∀ (k j : Nat) (x z : Int × Int), k < j → (firF l c)[k]? = some x → (firF l c)[j]? = some z → ¬ Rch (causeP l) x z)
    (Q := fun p g => Ext [] h1 g ∧ ((p.1 = .exit 0 ∧ causalP l) ∨ (p.1 = .ret ∧ p.2 2 = .bool false ∧ ¬ causalP l))) ?_ C.length _ _ ?_) ?_
  · rintro n t g ⟨i, t0, t3, t4, hi, x, hall⟩
    refine Tells.prot fun Q2 hQ2 => ?_
    unfold L_precentorref23_Causal_1
    simp [t4, t3, (oc.ext x).len]
    refine Tells.cb (fun hc => ?_) (fun hc => ?_)
    · simp at hc
      obtain ⟨c, hci⟩ : ∃ c, C[i]? = some c := ⟨_, List.getElem?_eq_getElem hc⟩
      obtain ⟨b1, p, B, q1, q2, q3⟩ := (oc.ext x).atI hci
      have htk : C.take (i + 1) = C.take i ++ [c] := by rw [List.take_add_one, hci]; rfl
      have hC : (cliF l).length ≤ 100 := by have := rowsF_len l; simp [rowsF] at this; omega
      have w : IntKind.i64.wrap ((i : Int) + 1) = i + 1 := wrap_id (by rw [hCl] at hC; omega) (by rw [hCl] at hC; omega)
      simp [J_precentorref23_Causal_2, t0, t3, t4, q1, q2, q3]
      refine Tells.bind (ref_first hX ((o.ext x1).ext x) hl c) ?_
      rintro av g2 ⟨ga, x2⟩
      try simp
      refine Tells.bind (refcau_row hX (av := av) (((o.ext x1).ext x).ext x2) hl ga.1 (Nat.le_trans (firF_len l c) hl) (by simp [t0]) (by simp) (by simp)) ?_
      rintro ⟨ex, t2⟩ g3 ⟨x3, ⟨rfl, hag, f3⟩ | ⟨rfl, ⟨k, j, x', z, hkj, hx', hz, hr⟩, h2⟩⟩
      · have e0 : t2 0 = v := (f3 0 (by decide)).trans (by simp [t0])
        have e3 : t2 3 = cv := (f3 3 (by decide)).trans (by simp [t3])
        have e4 : t2 4 = I i := (f3 4 (by decide)).trans (by simp [t4])
        simp [J_precentorref23_Causal_3, e4, w]
        refine Tells.ok (hQ2 _ _ (.inl ⟨rfl, n - 1, by omega, i + 1, by simp [e0], by simp [e3], by simp, by omega, (x.trans x2).trans x3, fun d hd => ?_⟩))
        rw [htk] at hd
        rcases List.mem_append.1 hd with q | q
        · exact hall d q
        · simp at q; subst q; exact hag
      · simp
        exact Tells.ok (hQ2 _ _ (.inr ⟨by simp, (x.trans x2).trans x3, .inr ⟨rfl, h2, fun hh => spec.1 hh c (List.mem_of_getElem? hci) k j x' z hkj hx' hz hr⟩⟩))
    · simp at hc
      rw [List.take_of_length_le (by omega)] at hall
      exact Tells.ok (hQ2 _ _ (.inr ⟨by simp, x, .inl ⟨rfl, spec.2 hall⟩⟩))
  · exact ⟨0, by simp, by simp, by simp, by omega, .refl, by simp⟩
  · rintro ⟨ex, t⟩ g ⟨x, ⟨rfl, ho⟩ | ⟨rfl, t2, ho⟩⟩
    · simp [J_precentorref23_Causal_0]
      exact Tells.ok (hQ _ _ ⟨true, rfl, by simp [ho], x1.trans x⟩)
    · simp
      exact Tells.ok (hQ _ _ ⟨false, t2, by simp [ho], x1.trans x⟩)
end
end Go.Proofs.Ytochkdifpgelmaa

/-! What the document's Once tells. -/
namespace Go.Proofs.Ytochkdifpgelmaa
open Go.Ab

/-- Was it sent there? -/
def sB (p : List Mk) (x : Int × Int) : Bool := p.any fun a => a.sent && decide (mid a = x)
/-- Two marks that may not both be. -/
def clash (m a : Mk) : Bool := decide (mid a = mid m) && ((m.sent && a.sent) || (!m.sent && !a.sent && decide (m.c = a.c)))
theorem sentC_zero {p : List Mk} {x : Int × Int} : sentC p x = 0 ↔ sB p x = false := by
  unfold sentC sB
  constructor
  · intro h
    have h' : (p.filter fun k => k.sent && decide (mid k = x)).length = 0 := by omega
    rw [List.length_eq_zero_iff, List.filter_eq_nil_iff] at h'
    rw [List.any_eq_false]
    exact fun a ha => by simpa using h' a ha
  · intro h
    rw [List.any_eq_false] at h
    have : p.filter (fun k => k.sent && decide (mid k = x)) = [] := by
      rw [List.filter_eq_nil_iff]
      exact fun a ha => by simpa using h a ha
    rw [this]; rfl
theorem heardC_zero {p : List Mk} {m : Mk} : heardC p m = 0 ↔ ∀ a, a ∈ p → a.sent = false → a ≠ m := by
  unfold heardC
  constructor
  · intro h
    have h' : (p.filter fun k => !k.sent && decide (k = m)).length = 0 := by omega
    rw [List.length_eq_zero_iff, List.filter_eq_nil_iff] at h'
    exact fun a ha hs q => h' a ha (by subst q; simp [hs])
  · intro h
    have : p.filter (fun k => !k.sent && decide (k = m)) = [] := by
      rw [List.filter_eq_nil_iff]
      intro a ha hq
      simp at hq
      exact h a ha hq.1 hq.2
    rw [this]; rfl
theorem heard_eq {m a : Mk} (h1 : m.sent = false) (h2 : a.sent = false) : a = m ↔ mid a = mid m ∧ m.c = a.c := by
  obtain ⟨a1, a2, a3, a4⟩ := a
  obtain ⟨m1, m2, m3, m4⟩ := m
  simp only at h1 h2
  subst h1; subst h2
  simp [mid]
  constructor
  · rintro ⟨rfl, rfl, rfl⟩; exact ⟨⟨rfl, rfl⟩, rfl⟩
  · rintro ⟨⟨rfl, rfl⟩, rfl⟩; exact ⟨rfl, rfl, rfl⟩
/-- A mark is well behind others, if none clashes with it and what was heard was sent. -/
theorem okM_eq {p : List Mk} {m : Mk} : okM p m = (!(p.any (clash m)) && (m.sent || sB p (mid m))) := by
  unfold okM
  by_cases hs : m.sent = true
  · rw [if_pos hs]
    have : p.any (clash m) = sB p (mid m) := by
      unfold sB
      congr 1; funext a
      simp [clash, hs, Bool.and_comm]
    rw [this, hs]
    by_cases q : sB p (mid m) = false
    · rw [q, sentC_zero.2 q]; rfl
    · have q' : sB p (mid m) = true := by simpa using q
      have : ¬ sentC p (mid m) = 0 := fun z => q (sentC_zero.1 z)
      rw [q']; simp [this]
  · rw [if_neg hs]
    have hs' : m.sent = false := by simpa using hs
    have e1 : decide (heardC p m = 0) = !(p.any (clash m)) := by
      rw [Bool.eq_iff_iff]
      simp only [decide_eq_true_eq, Bool.not_eq_true', List.any_eq_false]
      rw [heardC_zero]
      constructor
      · intro h a ha hq
        simp [clash, hs'] at hq
        exact h a ha hq.2.1 ((heard_eq hs' hq.2.1).2 ⟨hq.1, hq.2.2⟩)
      · intro h a ha hq he
        refine h a ha ?_
        have := (heard_eq hs' hq).1 he
        simp [clash, hs', hq, this]
    have e2 : (!decide (sentC p (mid m) = 0)) = sB p (mid m) := by
      cases q : sB p (mid m) with
      | false => simp [sentC_zero.2 q]
      | true =>
        have : ¬ sentC p (mid m) = 0 := fun z => by rw [sentC_zero.1 z] at q; cases q
        simp [this]
    rw [e1, e2, hs', Bool.false_or]

section
variable {X : XTab}
theorem refonce_in (hX : OnlyKnown X) {h : Heap} {v : AVal} {l : List Mk} {m : Mk} {i : Nat} {t : T} (o : Sl mkR h v l) (hl : l.length ≤ 100) (hm : l[i]? = some m) (t0 : t 0 = v) (t3 : t 3 = I i) (t4 : t 4 = .bool false) (t5 : t 5 = I 0) :
    Tells (fun q => loopN (L_precentorref23_Once_5 Try.prog (acallX Try.prog X q) q) q t h) fun p g' => Ext [] h g' ∧ ((p.1 = .exit 2 ∧ (l.take i).any (clash m) = false ∧ p.2 4 = .bool (sB (l.take i) (mid m)) ∧ p.2 0 = v ∧ p.2 3 = I i) ∨ (p.1 = .ret ∧ (l.take i).any (clash m) = true ∧ p.2 2 = .bool false)) := by
  have hil : i < l.length := (List.getElem?_eq_some_iff.1 hm).1
  refine Tells.loop (fun n t' g => ∃ (k : Nat), t' 5 = I k ∧ k + n = i ∧ Ext [] h g ∧ (l.take k).any (clash m) = false ∧ t' 4 = .bool (sB (l.take k) (mid m)) ∧ t' 0 = v ∧ t' 3 = I i) ?_ i _ _ ?_
  · rintro n u g ⟨k, u5, hk, x, hcl, u4, u0, u3⟩
    refine Tells.prot fun Q2 hQ2 => ?_
    unfold L_precentorref23_Once_5
    simp [u5, u3]
    refine Tells.cb (fun hc => ?_) (fun hc => ?_)
    · simp at hc
      obtain ⟨a, ha⟩ : ∃ a, l[k]? = some a := ⟨_, List.getElem?_eq_getElem (by omega)⟩
      obtain ⟨b, p, B, q1, q2, q3, q4, q5, q6, q7, q8, q9⟩ := mk_at (o.ext x) ha
      obtain ⟨b', p', B', r1, r2, r3, r4, r5, r6, r7, r8, r9⟩ := mk_at (o.ext x) hm
      have htk : l.take (k + 1) = l.take k ++ [a] := by rw [List.take_add_one, ha]; rfl
      have w : IntKind.i64.wrap ((k : Int) + 1) = k + 1 := wrap_id (by omega) (by omega)
      simp [J_precentorref23_Once_6, u0, u3, u5, q1, q2, q3, q4]
      refine Tells.cbE (by simpa [J_precentorref23_Once_6] using ref_idC hX a g) ?_
      rintro _ g2 ⟨rfl, x2⟩
      obtain ⟨b2, p2, B2, s1, s2, s3, s4, s5, s6, s7, s8, s9⟩ := mk_at ((o.ext x).ext x2) hm
      cases r1.symm.trans s1
      simp [r1, s2, s3, s4, r2, r3, r4]
      refine Tells.cbE (by simpa using ref_idC hX m g2) ?_
      rintro _ g3 ⟨rfl, x3⟩
      have x03 := (x.trans x2).trans x3
      obtain ⟨b3, p3, B3, k1, k2, k3, k4, k5, k6, k7, k8, k9⟩ := mk_at (o.ext x03) ha
      obtain ⟨b4, p4, B4, j1, j2, j3, j4, j5, j6, j7, j8, j9⟩ := mk_at (o.ext x03) hm
      cases q1.symm.trans k1
      cases r1.symm.trans j1
      simp [aBin_neq2 two30, idC]
      by_cases hq : mid a = mid m
      · have e1 : (mid a).1 = (mid m).1 := by rw [hq]
        have e2 : (mid a).2 = (mid m).2 := by rw [hq]
        have go : clash m a = false → ∀ (t' : T), t' 4 = .bool (sB (l.take k) (mid m)) → t' 5 = I k → t' 0 = v → t' 3 = I i → ∀ kk, kk = (fun q => (blkK 3 (sqK (J_precentorref23_Once_7 Try.prog (acallX Try.prog X q) q okK) okK))) → Tells (fun q => J_precentorref23_Once_9 Try.prog (acallX Try.prog X q) q (kk q) t' g3) Q2 := by
          intro hn t' e4 e5 e0 e3 kk hkk
          subst hkk
          unfold J_precentorref23_Once_9
          have hcl' : (l.take (k + 1)).any (clash m) = false := by rw [htk, List.any_append, hcl]; simpa using hn
          have hsb : sB (l.take (k + 1)) (mid m) = (sB (l.take k) (mid m) || a.sent) := by rw [htk]; simp [sB, hq]
          cases hb : sB (l.take k) (mid m) with
          | true =>
            rw [hb] at e4
            simp [e4, J_precentorref23_Once_7, e5, w]
            refine Tells.ok (hQ2 _ _ (.inl ⟨rfl, n - 1, by omega, k + 1, by simp, by omega, x03, hcl', by rw [hsb, hb]; simp, by simp [e0], by simp [e3]⟩))
          | false =>
            rw [hb] at e4
            simp [e4, e0, e5, q1, k2, k6, J_precentorref23_Once_7, w]
            refine Tells.ok (hQ2 _ _ (.inl ⟨rfl, n - 1, by omega, k + 1, by simp, by omega, x03, hcl', by rw [hsb, hb]; simp, by simp [e0], by simp [e3]⟩))
        have bad : clash m a = true → (l.take i).any (clash m) = true := fun hn => List.any_eq_true.2 ⟨a, List.mem_of_getElem? (i := k) (by rw [List.getElem?_take, if_pos hc]; exact ha), hn⟩
        simp [e1, e2, J_precentorref23_Once_8, u0, u3, u5, q1, r1, j2, j6, k2, k6]
        by_cases hs : m.sent = true
        · by_cases ht : a.sent = true
          · simp [hs, ht, u0, u3, u5, q1, r1, j2, j6, k2, k6]
            exact Tells.ok (hQ2 _ _ (.inr ⟨by simp, x03, .inr ⟨rfl, bad (by simp [clash, hq, hs, ht]), by simp⟩⟩))
          · have ht' : a.sent = false := by simpa using ht
            simp [hs, ht', u0, u3, u5, q1, r1, j2, j6, k2, k6]
            exact go (by simp [clash, hq, hs, ht']) _ (by simp [u4]) (by simp [u5]) (by simp [u0]) (by simp [u3]) _ rfl
        · have hs' : m.sent = false := by simpa using hs
          by_cases ht : a.sent = true
          · simp [hs', ht, u0, u3, u5, q1, r1, j2, j6, k2, k6]
            exact go (by simp [clash, hq, hs', ht]) _ (by simp [u4]) (by simp [u5]) (by simp [u0]) (by simp [u3]) _ rfl
          · have ht' : a.sent = false := by simpa using ht
            by_cases hcc : m.c = a.c
            · simp [hs', ht', hcc, u0, u3, u5, q1, r1, j2, j6, j7, k2, k6, k7]
              exact Tells.ok (hQ2 _ _ (.inr ⟨by simp, x03, .inr ⟨rfl, bad (by simp [clash, hq, hs', ht', hcc]), by simp⟩⟩))
            · have hcc' : (m.c == a.c) = false := by simpa using hcc
              simp [hs', ht', hcc, hcc', u0, u3, u5, q1, r1, j2, j6, j7, k2, k6, k7]
              exact go (by simp [clash, hq, hs', ht', hcc]) _ (by simp [u4]) (by simp [u5]) (by simp [u0]) (by simp [u3]) _ rfl
      · have e1 : ((mid a).1 == (mid m).1 && (mid a).2 == (mid m).2) = false := by rw [twoEqL]; simpa using hq
        have e3 : (!(mid a).1 == (mid m).1 || !(mid a).2 == (mid m).2) = true := by rw [← Bool.not_and, e1]; rfl
        rw [e3]
        have hcl' : (l.take (k + 1)).any (clash m) = false := by rw [htk, List.any_append, hcl]; simp [clash, hq]
        have hsb : sB (l.take (k + 1)) (mid m) = sB (l.take k) (mid m) := by rw [htk]; simp [sB, hq]
        simp [J_precentorref23_Once_7, u5, w]
        refine Tells.ok (hQ2 _ _ (.inl ⟨rfl, n - 1, by omega, k + 1, by simp, by omega, x03, hcl', by rw [hsb]; simp [u4], by simp [u0], by simp [u3]⟩))
    · simp at hc
      have : k = i := by omega
      subst this
      exact Tells.ok (hQ2 _ _ (.inr ⟨by simp, x, .inl ⟨rfl, hcl, by simp [u4], by simp [u0], by simp [u3]⟩⟩))
  · exact ⟨0, t5, by omega, .refl, by simp, by simpa [sB] using t4, t0, t3⟩

theorem ref_Once (hX : OnlyKnown X) {h : Heap} {v : AVal} {l : List Mk} (o : Sl mkR h v l) (hl : l.length ≤ 100) : Tells (fun q => acallX Try.prog X q F_precentorref23_Once [v] h) fun r h' => r = .bool (once l) ∧ Ext [] h h' := by
  refine R_precentorref23_Once _ (hX _ _ rfl) ?_
  refine Tells.prot fun Q' hQ => ?_
  unfold S_precentorref23_Once
  simp
  refine Tells.bind (Tells.loop (fun n t g => ∃ i : Nat, t 0 = v ∧ t 3 = I i ∧ i + n = l.length ∧ Ext [] h g ∧ onceG (l.take i) (l.drop i) = once l)
    (Q := fun p g => Ext [] h g ∧ ((p.1 = .exit 0 ∧ once l = true) ∨ (p.1 = .ret ∧ p.2 2 = .bool false ∧ once l = false))) ?_ l.length _ _ ?_) ?_
  · rintro n t g ⟨i, t0, t3, hi, x, hon⟩
    refine Tells.prot fun Q2 hQ2 => ?_
    unfold L_precentorref23_Once_1
    simp [t3, t0, (o.ext x).len]
    refine Tells.cb (fun hc => ?_) (fun hc => ?_)
    · simp at hc
      obtain ⟨m, hm⟩ : ∃ m, l[i]? = some m := ⟨_, List.getElem?_eq_getElem hc⟩
      have htk : l.take (i + 1) = l.take i ++ [m] := by rw [List.take_add_one, hm]; rfl
      have hdr : l.drop i = m :: l.drop (i + 1) := by
        rw [List.drop_eq_getElem_cons hc]
        rw [List.getElem?_eq_getElem hc] at hm
        cases hm; rfl
      rw [hdr, onceG_at, ← htk, okM_eq] at hon
      have w : IntKind.i64.wrap ((i : Int) + 1) = i + 1 := wrap_id (by omega) (by omega)
      simp [J_precentorref23_Once_2]
      refine Tells.bind (refonce_in hX (i := i) (m := m) (o.ext x) hl hm (by simp [t0]) (by simp [t3]) (by simp) (by simp)) ?_
      rintro ⟨ex, u⟩ g2 ⟨x2, ⟨rfl, hcl, u4, u0, u3⟩ | ⟨rfl, hcl, u2⟩⟩
      · have u4 : u 4 = .bool (sB (l.take i) (mid m)) := u4
        have u0 : u 0 = v := u0
        have u3 : u 3 = I i := u3
        obtain ⟨b, p, B, q1, q2, q3, q4, q5, q6, q7, q8, q9⟩ := mk_at ((o.ext x).ext x2) hm
        rw [hcl] at hon
        simp [J_precentorref23_Once_4, u0, u3, q1, q2, q6]
        cases hs : m.sent with
        | true =>
          rw [hs] at hon
          simp [J_precentorref23_Once_3, u3, w]
          exact Tells.ok (hQ2 _ _ (.inl ⟨rfl, n - 1, by omega, i + 1, by simp [u0], by simp, by omega, x.trans x2, by simpa using hon⟩))
        | false =>
          rw [hs] at hon
          cases hb : sB (l.take i) (mid m) with
          | true =>
            rw [hb] at hon u4
            simp [u4, J_precentorref23_Once_3, u3, w]
            exact Tells.ok (hQ2 _ _ (.inl ⟨rfl, n - 1, by omega, i + 1, by simp [u0], by simp, by omega, x.trans x2, by simpa using hon⟩))
          | false =>
            rw [hb] at hon u4
            simp [u4]
            exact Tells.ok (hQ2 _ _ (.inr ⟨by simp, x.trans x2, .inr ⟨rfl, by simp, by simpa using hon.symm⟩⟩))
      · rw [hcl] at hon
        simp
        exact Tells.ok (hQ2 _ _ (.inr ⟨by simp, x.trans x2, .inr ⟨rfl, u2, by simpa using hon.symm⟩⟩))
    · simp at hc
      rw [List.take_of_length_le (by omega), List.drop_of_length_le (by omega)] at hon
      exact Tells.ok (hQ2 _ _ (.inr ⟨by simp, x, .inl ⟨rfl, hon.symm⟩⟩))
  · exact ⟨0, by simp, by simp, by omega, .refl, by simp [once]⟩
  · rintro ⟨ex, t⟩ g ⟨x, ⟨rfl, ho⟩ | ⟨rfl, t2, ho⟩⟩
    · simp [J_precentorref23_Once_0]
      exact Tells.ok (hQ _ _ ⟨by rw [ho], x⟩)
    · simp
      exact Tells.ok (hQ _ _ ⟨by rw [ho]; exact t2, x⟩)
end
end Go.Proofs.Ytochkdifpgelmaa

/-! TraceTells: whatever the marks, each answer is as the document says. -/
namespace Go.Proofs.Ytochkdifpgelmaa
open Go.Ab Go.ChangeShapes Go.WideShapes Go.ChangeAt Go.RowKit Go.Deep

section
variable {X : XTab}
theorem law_same (hX : OnlyKnown X) {h : Heap} {v w : AVal} {l : Ids} (o : Sl idR h v l) (o2 : Sl idR h w l) (hl : l.length ≤ 10000) : Tells (fun q => acallX Try.prog X q F_precentorlaw25_same [v, w] h) fun r h' => r = .bool true ∧ h' = h := by
  refine R_precentorlaw25_same _ _ (hX _ _ rfl) ?_
  refine Tells.prot fun Q' hQ => ?_
  unfold S_precentorlaw25_same
  simp [o.len, o2.len, J_precentorlaw25_same_0]
  refine Tells.bind (Tells.loop (fun n t g => ∃ i : Nat, t 0 = v ∧ t 1 = w ∧ t 5 = I i ∧ i + n = l.length ∧ g = h)
    (Q := fun p g => g = h ∧ p.1 = .exit 0) ?_ l.length _ _ ?_) ?_
  · rintro n t g ⟨i, t0, t1, t5, hi, rfl⟩
    refine Tells.prot fun Q2 hQ2 => ?_
    unfold L_precentorlaw25_same_2
    simp [t5, t0, o.len]
    refine Tells.cb (fun hc => ?_) (fun hc => ?_)
    · simp at hc
      obtain ⟨k, hk⟩ : ∃ k, l[i]? = some k := ⟨_, List.getElem?_eq_getElem hc⟩
      obtain ⟨b, p, B, q1, q2, q3, q4, q5, q6, q7⟩ := id_at o hk
      obtain ⟨b', p', B', r1, r2, r3, r4, r5, r6, r7⟩ := id_at o2 hk
      have w : IntKind.i64.wrap ((i : Int) + 1) = i + 1 := wrap_id (by omega) (by omega)
      simp [J_precentorlaw25_same_3, t5, t0, t1, q1, q2, q3, q4, r1, r2, r3, r4, aBin_neq2 two30, J_precentorlaw25_same_4, w]
      exact Tells.ok (hQ2 _ _ (.inl ⟨rfl, n - 1, by omega, i + 1, by simp [t0], by simp [t1], by simp, by omega, rfl⟩))
    · exact Tells.ok (hQ2 _ _ (.inr ⟨by simp, rfl, rfl⟩))
  · exact ⟨0, by simp, by simp, by simp, by omega, rfl⟩
  · rintro ⟨ex, t⟩ g ⟨rfl, rfl⟩
    simp [J_precentorlaw25_same_1]
    exact Tells.ok (hQ _ _ ⟨rfl, rfl⟩)

theorem tells_J (hX : OnlyKnown X) (hk : X F_precentorlaw25_known [] = some (.bool true)) {g : Heap} {t : T} {mv : AVal} {m : List Mk} {who : Int} {x : Int × Int} {bx : Nat} (om : Sl mkR g mv m) (hm : m.length ≤ 27) (ob : Ob g bx (idC x)) (t3 : t 3 = I who) (t9 : t 9 = .ptr bx 0) (t11 : t 11 = mv) :
    Tells (fun q => J_precentorlaw25_TraceTells_0 Try.prog (acallX Try.prog X q) q (retK Try.prog [.tmp 10]) t g) fun v _ => v = .bool true := by
  refine Tells.prot fun Q' hQ => ?_
  have hm' : m.length ≤ 100 := by omega
  unfold J_precentorlaw25_TraceTells_0
  simp [t11]
  refine Tells.bind (trace_Line hX om hm') ?_
  rintro _ g1 ⟨av, rfl, sa, x1⟩
  simp [t11]
  refine Tells.bind (ref_Line hX (om.ext x1) hm') ?_
  rintro _ g2 ⟨bv, rfl, sb, x2⟩
  try simp
  refine Tells.cbE (known_X hk g2) ?_
  rintro _ g3 ⟨rfl, hg3⟩
  subst hg3
  have hL : ((lineF (rowsF m)).getD []).length ≤ 10000 := by
    cases hb : lineF (rowsF m) with
    | none => simp
    | some res =>
      obtain ⟨h1, h2, _, _⟩ := lineF_some (fun a ha => nodup_row ha) hb
      have := nodup_sub_len h1 (m := m.map mid) fun z hz => flat_mid ((h2 z).1 hz)
      simp at this ⊢; omega
  generalize (lineF (rowsF m)).isSome = lb
  simp
  refine Tells.cbE (law_same hX (sa.ext x2) sb hL) ?_
  rintro _ g4 ⟨rfl, hg4⟩
  subst hg4
  have om4 := (om.ext x1).ext x2
  have ob4 := (ob.e x1).e x2
  simp [t11, t3]
  refine Tells.cbE (trace_Heard hX om4 hm' who) ?_
  rintro ha g5 ⟨ga, x5⟩
  try simp
  refine Tells.cbE (ref_Heard hX (om4.ext x5) hm' who) ?_
  rintro hb g6 ⟨gb, x6⟩
  try simp
  refine Tells.cbE (law_same hX (ga.1.ext x6) gb.1 (Nat.le_trans (heardL_len m who) (by omega))) ?_
  rintro _ g7 ⟨rfl, hg7⟩
  subst hg7
  have om6 := (om4.ext x5).ext x6
  have ob6 := (ob4.e x5).e x6
  simp [t11]
  refine Tells.cbE (trace_Once hX om6 hm') ?_
  rintro _ g8 ⟨rfl, x8⟩
  try simp
  refine Tells.cbE (ref_Once hX (om6.ext x8) hm') ?_
  rintro _ g9 ⟨rfl, x9⟩
  have om9 := (om6.ext x8).ext x9
  have ob9 := (ob6.e x8).e x9
  simp [t11]
  refine Tells.cbE (trace_Agree hX om9 hm') ?_
  rintro _ g10 ⟨rfl, x10⟩
  try simp
  refine Tells.cbE (ref_Agree hX (om9.ext x10) hm') ?_
  rintro _ g11 ⟨rfl, x11⟩
  have om11 := (om9.ext x10).ext x11
  have ob11 := (ob9.e x10).e x11
  have e11 := ob11.1
  simp only [idC] at e11
  simp [t11, t9, e11]
  refine Tells.cbE (trace_Causes hX om11 hm' x) ?_
  rintro ca g12 ⟨L, sL, rL, mL, lL, x12⟩
  have ob12 := ob11.e x12
  have e12 := ob12.1
  simp only [idC] at e12
  simp [e12]
  refine Tells.cbE (ref_Causes hX (om11.ext x12) hm' x) ?_
  rintro cb2 g13 ⟨M, sM, rM, mM, lM, x13⟩
  have hLM : L = M := rise_ext rL rM fun z => by rw [mL, mM]
  subst hLM
  try simp
  refine Tells.cbE (law_same hX (sL.ext x13) sM (by omega)) ?_
  rintro _ g14 ⟨rfl, hg14⟩
  subst hg14
  have om13 := (om11.ext x12).ext x13
  simp [t11]
  refine Tells.cbE (trace_Causal hX om13 hm') ?_
  rintro _ g15 ⟨b1, rfl, hb1, x15⟩
  try simp
  refine Tells.cbE (ref_Causal hX (om13.ext x15) hm') ?_
  rintro _ g16 ⟨b2, rfl, hb2, x16⟩
  have : b1 = b2 := by
    rw [Bool.eq_iff_iff, hb1, hb2]
  subst this
  simp
  exact Tells.ok (hQ _ _ rfl)
end
end Go.Proofs.Ytochkdifpgelmaa
