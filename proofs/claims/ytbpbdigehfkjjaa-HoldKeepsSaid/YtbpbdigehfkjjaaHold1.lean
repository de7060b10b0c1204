/-
  What hold.Put tells.
-/
import Derived.Test.YtbpbdigehfkjjaaHold0
set_option linter.unusedVariables false
set_option linter.unusedSimpArgs false
namespace Go.Proofs.Ytbpbdigehfkjjaa
open Go.Ab
section
variable {X : XTab}
theorem hold_Put (hX : OnlyKnown X) {K b : Nat} {most : Int} {s : Slots} {es : List Ev} {cv vw : AVal} {h0 h : Heap} (o : Hd K h0 h b most s es cv vw) (hK : K ≤ h.next) (hle : h0.next ≤ h.next) (hes : es.length < 2 ^ 30)
    {x : Ev} {va vs : AVal} (oa : Sl attrR h va x.ats) (os : Sl pairR h vs x.sts) (la : x.ats.length ≤ 2 ^ 30) (ls : x.sts.length ≤ 2 ^ 30) :
    Tells (fun q => acallX Try.prog X q F_hold_Hold_Put [.ptr b 0, .agg (evC x va vs)] h) fun a h' => a = I (putE most es x).1 ∧ (∃ vw', Hd K h0 h' b most s (putE most es x).2 cv vw') ∧ Ext (b :: vw.blks) h h' ∧ ∀ S, b ∈ S → Ext S h0 h → Ext S h0 h' := by
  refine R_hold_Hold_Put _ _ (hX _ _ rfl) ?_
  refine Tells.prot fun Q' hQ => ?_
  unfold S_hold_Hold_Put
  try simp
  refine Tells.box (cs := evC x va vs) (by simp [evC, AVal.known, oa.known, os.known]) (by simp [evC, AVal.cells]) fun h1 be oe x1 l1 => ?_
  have o1 := o.ob.e x1
  simp [o1.1, o.ev.1.len]
  refine Tells.bind (Tells.loop (fun n t g => ∃ i : Nat, t 0 = .ptr b 0 ∧ t 3 = .ptr be 0 ∧ t 10 = vw ∧ t 11 = I es.length ∧ t 12 = I i ∧ i + n = es.length ∧ Ob g be (evC x va vs) ∧ Ext [] h g ∧ heldE es x = heldE (es.drop i) x)
    (Q := fun p g => Ext [] h g ∧ ((p.1 = .exit 0 ∧ p.2 0 = .ptr b 0 ∧ p.2 3 = .ptr be 0 ∧ heldE es x = false ∧ Ob g be (evC x va vs)) ∨ (p.1 = .ret ∧ p.2 4 = I 5 ∧ heldE es x = true))) ?_ es.length _ _ ?_) ?_
  · rintro n t g ⟨i, t0, t3, t10, t11, t12, hi, oe, xg, hh⟩
    refine Tells.prot fun Q2 hQ2 => ?_
    unfold L_hold_Hold_Put_2
    simp [t11, t12]
    refine Tells.cb (fun hc => ?_) (fun hc => ?_)
    · simp at hc
      obtain ⟨y, hy⟩ : ∃ y, es[i]? = some y := ⟨_, List.getElem?_eq_getElem hc⟩
      obtain ⟨b1, p1, B1, va1, vs1, q1, q2, q3, q4, oa1, os1, _⟩ := ev_at (o.ev.1.ext xg) hy
      have w : IntKind.i64.wrap ((i : Int) + 1) = i + 1 := wrap_id (by omega) (by omega)
      rw [heldE_drop hy] at hh
      simp [J_hold_Hold_Put_3, t10, t12, q1, q2, q3, q4]
      refine Tells.newSt (ds := evC y va1 vs1) (by rfl) (by rfl) (by rfl) (by simp [evC, oa1.one, os1.one]) fun g1 bn on xn ln => ?_
      have oe1 := oe.e xn
      by_cases c1 : y.c = x.c
      · have c1' : (y.c == x.c) = true := by simp [c1]
        by_cases c2 : y.s = x.s
        · have c2' : (y.s == x.s) = true := by simp [c2]
          simp [on.1, oe1.1, t3, evC, c1, c2]
          exact Tells.ok (hQ2 _ _ (.inr ⟨by simp, xg.trans xn, .inr ⟨rfl, by simp, by rw [hh, c1', c2']; rfl⟩⟩))
        · have c2' : (y.s == x.s) = false := beq_eq_false_iff_ne.2 c2
          simp [on.1, oe1.1, t3, evC, c1, c2', J_hold_Hold_Put_4, t12, w]
          exact Tells.ok (hQ2 _ _ (.inl ⟨rfl, n - 1, by omega, i + 1, by simp [t0], by simp [t3], by simp [t10], by simp [t11], by simp, by omega, oe1, xg.trans xn, by rw [hh, c1', c2']; rfl⟩))
      · have c1' : (y.c == x.c) = false := beq_eq_false_iff_ne.2 c1
        simp [on.1, oe1.1, t3, evC, c1', J_hold_Hold_Put_4, t12, w]
        exact Tells.ok (hQ2 _ _ (.inl ⟨rfl, n - 1, by omega, i + 1, by simp [t0], by simp [t3], by simp [t10], by simp [t11], by simp, by omega, oe1, xg.trans xn, by rw [hh, c1']; rfl⟩))
    · simp at hc
      exact Tells.ok (hQ2 _ _ (.inr ⟨by simp, xg, .inl ⟨rfl, by simp [t0], by simp [t3], by rw [hh, List.drop_eq_nil_of_le (by omega)]; rfl, oe⟩⟩))
  · exact ⟨0, by simp, by simp, by simp, by simp, by simp, by omega, oe, x1, rfl⟩
  · rintro ⟨ex, t⟩ g ⟨xg, ⟨rfl, t0, t3, hh, oe⟩ | ⟨rfl, t4, hh⟩⟩
    · simp only at t0 t3
      have og := o.ob.e xg
      simp [J_hold_Hold_Put_0, t0, og.1, (o.ev.1.ext xg).len]
      refine Tells.cb (fun hc => ?_) (fun hc => ?_)
      · simp at hc
        have e : putE most es x = (6, es) := by simp [putE, hh, hc]
        refine Tells.ok (hQ _ _ ⟨by rw [e], ⟨vw, by rw [e]; exact o.ext xg (by simp) (by simp)⟩, xg.of, fun S hS k => k.quiet xg⟩)
      · simp at hc
        have e : putE most es x = (0, es ++ [x]) := by simp [putE, hh, show ¬ most ≤ (es.length : Int) by omega]
        simp [J_hold_Hold_Put_1, t0, t3, og.1, oe.1, evC]
        refine Tells.cbE (hold_clone hX (oa.ext xg) (os.ext xg) la ls) ?_
        rintro _ g2 ⟨va2, vs2, rfl, oa2, os2, wa2, ws2, x2⟩
        have xg2 := xg.trans x2
        have og2 := o.ob.e xg2
        simp [og2.1]
        have hre : (evR K).rep g2 (evC x va2 vs2) x := ⟨va2, vs2, rfl, oa2, os2, UpK.of wa2 (Nat.le_trans hK xg.next), UpK.of ws2 (Nat.le_trans hK xg.next)⟩
        refine Tells.app1WE (r := evR K) (o.ev.e xg2) (o.wr.ext xg2) (by simp [AVal.cells, evC]) (by simp [AVal.known, evC, oa2.known, os2.known]) hre (by rfl) (by rfl) (by omega) (by decide) (Nat.le_trans hle xg2.next) fun v3 h3 g3 w3 x3 y3 z3 => ?_
        have hbv : b ∉ vw.blks := o.ev.1.ob o.ob
        have og3 := og2.ext x3 hbv
        try simp [t0]
        refine Tells.st1E og3 g3.1.cells g3.1.one (by simp) fun h4 o4 x4 => ?_
        try simp
        have g4 : Gl (evR K) h0 h4 v3 (es ++ [x]) := g3.ext x4 fun c hc q => by
          have : b ∉ v3.blks := g3.1.ob og3
          exact this (by rw [← List.mem_singleton.1 q]; exact hc)
        refine Tells.ok (hQ _ _ ⟨by rw [e], ⟨v3, by rw [e]; exact ⟨o4, o.sl.ext xg2 |>.ext x3 |>.ext x4, g4, w3.ext x4⟩⟩, ?_, fun S hS k => ?_⟩)
        · exact ((xg2.of (S := vw.blks)).trans x3 |>.mono (fun z hz => List.mem_cons_of_mem _ hz)).then x4 fun z hz => .inl (by simp at hz; simp [hz])
        · exact (y3 S (k.quiet xg2)).then x4 fun z hz => .inl (by simp at hz; subst hz; exact hS)
    · simp only at t4
      simp [t4]
      have e : putE most es x = (5, es) := by simp [putE, hh]
      exact Tells.ok (hQ _ _ ⟨by rw [e], ⟨vw, by rw [e]; exact o.ext xg (by simp) (by simp)⟩, xg.of, fun S hS k => k.quiet xg⟩)
end
end Go.Proofs.Ytbpbdigehfkjjaa
