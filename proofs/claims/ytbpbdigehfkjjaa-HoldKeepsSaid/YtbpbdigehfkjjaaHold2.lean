/-
  What hold.Next, Len and Clock tell.
-/
import Derived.Test.YtbpbdigehfkjjaaHold1
set_option linter.unusedVariables false
set_option linter.unusedSimpArgs false
namespace Go.Proofs.Ytbpbdigehfkjjaa
open Go.Ab
theorem dueI_lt {s : Slots} : ∀ {es : List Ev} {i : Nat}, dueI s es = some i → i < es.length
  | [], _, h => by simp [dueI] at h
  | x :: l, i, h => by
    simp only [dueI] at h
    split at h
    · cases h; simp
    · cases e : dueI s l with
      | none => rw [e] at h; cases h
      | some j => rw [e] at h; cases h; have := dueI_lt e; simp; omega
theorem dueI_due {s : Slots} : ∀ {es : List Ev} {i : Nat} {x : Ev}, dueI s es = some i → es[i]? = some x → due s x.sts = true
  | [], _, _, h, _ => by simp [dueI] at h
  | y :: l, i, x, h, hx => by
    simp only [dueI] at h
    split at h
    · cases h; simp at hx; subst hx; assumption
    · cases e : dueI s l with
      | none => rw [e] at h; cases h
      | some j => rw [e] at h; cases h; exact dueI_due e (by simpa using hx)
section
variable {X : XTab}
theorem hold_Next (hX : OnlyKnown X) {K b : Nat} {most : Int} {s : Slots} {es : List Ev} {cv vw : AVal} {h0 h : Heap} (o : Hd K h0 h b most s es cv vw) (hle : h0.next ≤ h.next) (hes : es.length < 2 ^ 30)
    (hsl : s.length < 2 ^ 30) (hst : ∀ x, x ∈ es → x.sts.length < 2 ^ 30) (hs : Small s (2 ^ 60)) :
    Tells (fun q => acallX Try.prog X q F_hold_Hold_Next [.ptr b 0] h) fun a h' => Ext (b :: vw.blks) h h' ∧ (∀ S, b ∈ S → Ext S h0 h → Ext S h0 h') ∧
      ((dueI s es = none ∧ a = .tup [.agg (evC ev0 .nils .nils), .bool false] ∧ Hd K h0 h' b most s es cv vw) ∨
       (∃ i x va vs, dueI s es = some i ∧ es[i]? = some x ∧ a = .tup [.agg (evC x va vs), .bool true] ∧ Sl attrR h' va x.ats ∧ Sl pairR h' vs x.sts ∧ ∃ cv' vw', Hd K h0 h' b most (take s x.sts) (es.take i ++ es.drop (i + 1)) cv' vw')) := by
  refine R_hold_Hold_Next _ (hX _ _ rfl) ?_
  refine Tells.prot fun Q' hQ => ?_
  unfold S_hold_Hold_Next
  try simp
  refine Tells.new fun h1 b2 o2 x1 l1 => ?_
  have ob1 := o.ob.e x1
  have hb2 : b ≠ b2 := by have := o.ob.lt; omega
  simp [ob1.1, o.ev.1.len]
  refine Tells.bind (Tells.loop (fun n t g => ∃ i : Nat, t 0 = .ptr b 0 ∧ t 2 = .ptr b2 0 ∧ t 9 = vw ∧ t 10 = I es.length ∧ t 11 = I i ∧ i + n = es.length ∧ Ob g b2 (evC ev0 .nils .nils) ∧ Ext [] h g ∧ h.next ≤ b2 ∧ dueI s es = (dueI s (es.drop i)).map (· + i))
    (Q := fun p g => p.2 2 = .ptr b2 0 ∧ ((p.1 = .exit 0 ∧ Ext [] h g ∧ h.next ≤ b2 ∧ dueI s es = none ∧ Ob g b2 (evC ev0 .nils .nils)) ∨ (p.1 = .ret ∧ p.2 3 = .bool true ∧ Ext (b :: vw.blks) h g ∧ (∀ S, b ∈ S → Ext S h0 h → Ext S h0 g) ∧
      ∃ i x va vs, dueI s es = some i ∧ es[i]? = some x ∧ Ob g b2 (evC x va vs) ∧ Sl attrR g va x.ats ∧ Sl pairR g vs x.sts ∧ ∃ cv' vw', Hd K h0 g b most (take s x.sts) (es.take i ++ es.drop (i + 1)) cv' vw'))) ?_ es.length _ _ ?_) ?_
  · rintro n t g ⟨i, t0, t2, t9, t10, t11, hi, o2, xg, l2, hd⟩
    refine Tells.prot fun Q2 hQ2 => ?_
    unfold L_hold_Hold_Next_1
    simp [t10, t11]
    refine Tells.cb (fun hc => ?_) (fun hc => ?_)
    · simp at hc
      obtain ⟨y, hy⟩ : ∃ y, es[i]? = some y := ⟨_, List.getElem?_eq_getElem hc⟩
      have hm := List.mem_of_getElem? hy
      obtain ⟨b1, p1, B1, va1, vs1, q1, q2, q3, q4, oa1, os1, ua1, us1, _⟩ := ev_at (o.ev.1.ext xg) hy
      have w : IntKind.i64.wrap ((i : Int) + 1) = i + 1 := wrap_id (by omega) (by omega)
      rw [dueI_drop hy] at hd
      simp [J_hold_Hold_Next_2, t9, t11, q1, q2, q3, q4]
      refine Tells.newSt (ds := evC y va1 vs1) (by rfl) (by rfl) (by rfl) (by simp [evC, oa1.one, os1.one]) fun g1 bn on xn ln => ?_
      have x1 := xg.trans xn
      have ob := o.ob.e x1
      simp [t0, ob.1, on.1, evC]
      refine Tells.cbE (clock_Due hX (o.sl.ext x1) (by omega) (os1.ext xn) (by have := hst y hm; omega)) ?_
      rintro _ g2 ⟨rfl, xd⟩
      have x2 := x1.trans xd
      have ob2 := o.ob.e x2
      have on2 := on.e xd
      have o22 := (o2.e xn).e xd
      cases c : due s y.sts with
      | false =>
        rw [c] at hd
        simp [J_hold_Hold_Next_3, t11, w]
        refine Tells.ok (hQ2 _ _ (.inl ⟨rfl, n - 1, by omega, i + 1, by simp [t0], by simp [t2], by simp [t9], by simp [t10], by simp, by omega, o22, x2, l2, ?_⟩))
        rw [hd]
        simp only [Bool.false_eq_true, if_false, Option.map_map]
        congr 1
        funext z
        simp
        omega
      | true =>
        rw [c] at hd
        have hd : dueI s es = some i := by rw [hd]; simp
        simp [t0, ob2.1, on2.1, evC]
        refine Tells.cbE (clock_Take hX (o.sl.ext x2) hsl ((os1.ext xn).ext xd) (hst y hm) ⟨by decide, by decide⟩ hs) ?_
        rintro _ g3 ⟨cv', rfl, sl3, xt⟩
        have x3 := x2.trans xt
        have ob3 := o.ob.e x3
        have on3 := on2.e xt
        have o23 := o22.e xt
        have hbn : bn ≠ b := by have := (o.ob.e xg).lt; omega
        have hn2 : bn ≠ b2 := by have := o2.lt; omega
        try simp
        refine Tells.stE ob3 (by rfl) (by simp [AVal.cells, sl3.one]) (by simp) fun g4 ob4 x4 => ?_
        have ob4 : Ob g4 b [I most, cv', vw] := ob4
        have on4 := on3.ext x4 (by simpa using hbn)
        have o24 := o23.ext x4 (by simpa using hb2.symm)
        have x04 : Ext [b] h g4 := x3.of.trans x4
        have ev4 : Gl (evR K) h0 g4 vw es := o.ev.extO x04 (by simpa using .inl o.ob.2.1)
        have wr4 := o.wr.ext x04
        have hnil : vw ≠ .nils := o.ev.1.ne (by omega)
        obtain ⟨-, -, -, k4⟩ := ev4.1.cut (n := 7) rfl hnil (lo := 0) (hi := i) (by omega) (by omega)
        obtain ⟨u1, c1, s1, b1', gr1⟩ := k4 rfl
        obtain ⟨u2, c2, s2, b2'⟩ := ev4.1.dropR (n := 7) rfl (lo := i + 1) (by omega)
        have c2 : slcR 7 vw (some (.int .i64 ((i : Int) + 1))) none none = some u2 := c2
        have w1 : Wr h0 g4 u1 := fun z hz => wr4 z (by rw [← b1']; exact hz)
        simp [t0, ob4.1, c1, w, c2]
        refine Tells.appNWE (r := evR K) ⟨s1, gr1 h0⟩ w1 s2 (by rfl) (by simp; omega) (by decide) (Nat.le_trans hle x04.next) fun v5 g5 gl5 w5 x5 y5 z5 => ?_
        rw [b1'] at x5
        have hbv : b ∉ vw.blks := ev4.1.ob ob4
        have ob5 := ob4.ext x5 hbv
        have on5 := on4.ext x5 (ev4.1.ob on4)
        have o25 := o24.ext x5 (ev4.1.ob o24)
        try simp
        refine Tells.st1E ob5 gl5.1.cells gl5.1.one (by simp) fun g6 ob6 x6 => ?_
        have ob6 : Ob g6 b [I most, cv', v5] := by simpa using ob6
        have on6 := on5.ext x6 (by simpa using hbn)
        have o26 := o25.ext x6 (by simpa using hb2.symm)
        have hb5 : b ∉ v5.blks := gl5.1.ob ob5
        have gl6 : Gl (evR K) h0 g6 v5 (es.take i ++ es.drop (i + 1)) := gl5.ext x6 fun c hc q => hb5 (by rw [← List.mem_singleton.1 q]; exact hc)
        have hb26 : b2 ∉ v5.blks := gl6.1.ob o26
        simp [on6.1, evC, t2]
        have x46 := x5
        have oa6 := ((((((oa1.ext xn).ext xd).ext xt).ext x4).ext x5).ext x6)
        have os6 := ((((((os1.ext xn).ext xd).ext xt).ext x4).ext x5).ext x6)
        refine Tells.stN o26 (ds := evC y va1 vs1) (by rfl) (by rfl) (by simp [evC, oa6.one, os6.one]) (by rfl) fun g7 o27 x7 => ?_
        have E4 : Ext (b :: vw.blks) h g4 := x04.mono (by simp)
        have E5 : Ext (b :: vw.blks) h g5 := E4.trans (x5.mono fun z hz => List.mem_cons_of_mem _ hz)
        have E6 : Ext (b :: vw.blks) h g6 := E5.trans (x6.mono (by simp))
        have E7 : Ext (b :: vw.blks) h g7 := E6.then x7 fun z hz => .inr (by simp at hz; omega)
        refine Tells.ok (hQ2 _ _ (.inr ⟨by simp, by simp [t2], .inr ⟨rfl, by simp, E7, fun S hS k => ?_, i, y, va1, vs1, hd, hy, o27, oa6.ext x7, os6.ext x7, cv', v5, ⟨ob6.ext x7 (by simpa using hb2), (((sl3.ext x4).ext x5).ext x6).ext x7, gl6.ext x7 fun c hc q => hb26 (by rw [← List.mem_singleton.1 q]; exact hc), (w5.ext x6).ext x7⟩⟩⟩))
        have k4 : Ext S h0 g4 := (k.quiet x3).then x4 fun z hz => .inl (by simp at hz; subst hz; exact hS)
        exact ((y5 S k4).then x6 fun z hz => .inl (by simp at hz; subst hz; exact hS)).then x7 fun z hz => .inr (by simp at hz; omega)
    · simp at hc
      exact Tells.ok (hQ2 _ _ (.inr ⟨by simp, by simp [t2], .inl ⟨rfl, xg, l2, by rw [hd, List.drop_eq_nil_of_le (by omega)]; rfl, o2⟩⟩))
  · refine ⟨0, by simp, by simp, by simp, by simp, by simp, by omega, o2, x1, l1, by simp⟩
  · rintro ⟨ex, t⟩ g ⟨t2, ⟨rfl, xg, l2, hd, o2⟩ | ⟨rfl, t3, xg, yg, i, x, va, vs, hd, hx, o2, oa, os, hd'⟩⟩
    · simp only at t2
      simp [J_hold_Hold_Next_0, t2, bldR, fillR]
      refine Tells.stN o2 (ds := evC ev0 .nils .nils) (by rfl) (by rfl) (by rfl) (by rfl) fun g2 o3 x2 => ?_
      simp [t2, C_hold_Hold_Next_0, o3.1, evC]
      have e2 : Ext [] h g2 := xg.then x2 fun z hz => .inr (by simp at hz; omega)
      exact Tells.ok (hQ _ _ ⟨e2.of, fun S _ k => k.quiet e2, .inl ⟨hd, rfl, o.ext e2 (by simp) (by simp)⟩⟩)
    · simp only at t2 t3
      simp [t2, t3, C_hold_Hold_Next_0, o2.1, evC]
      exact Tells.ok (hQ _ _ ⟨xg, yg, .inr ⟨i, x, va, vs, hd, hx, rfl, oa, os, hd'⟩⟩)
theorem hold_Len (hX : OnlyKnown X) {K b : Nat} {most : Int} {s : Slots} {es : List Ev} {cv vw : AVal} {h0 h : Heap} (o : Hd K h0 h b most s es cv vw) :
    Tells (fun q => acallX Try.prog X q F_hold_Hold_Len [.ptr b 0] h) fun a h' => a = I es.length ∧ h' = h := by
  refine R_hold_Hold_Len _ (hX _ _ rfl) ?_
  unfold S_hold_Hold_Len
  simp [o.ob.1, o.ev.1.len]
  exact Tells.ok ⟨rfl, rfl⟩
theorem hold_Clock (hX : OnlyKnown X) {K b : Nat} {most : Int} {s : Slots} {es : List Ev} {cv vw : AVal} {h0 h : Heap} (o : Hd K h0 h b most s es cv vw) :
    Tells (fun q => acallX Try.prog X q F_hold_Hold_Clock [.ptr b 0] h) fun a h' => a = .agg [cv] ∧ Ext [] h h' := by
  refine R_hold_Hold_Clock _ (hX _ _ rfl) ?_
  refine Tells.prot fun Q' hQ => ?_
  unfold S_hold_Hold_Clock
  try simp
  refine Tells.new fun h1 b2 o2 x1 l1 => ?_
  have ob1 := o.ob.e x1
  simp [ob1.1]
  refine Tells.stN o2 (ds := [cv]) (by rfl) (by rfl) (by simp [o.sl.one]) (by rfl) fun h2 o3 x2 => ?_
  simp [C_hold_Hold_Clock_0, o3.1]
  exact Tells.ok (hQ _ _ ⟨rfl, x1.then x2 fun z hz => .inr (by simp at hz; omega)⟩)
end
end Go.Proofs.Ytbpbdigehfkjjaa
