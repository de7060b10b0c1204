/-
  Texts of a claim, merged: Law16a, Slots0, Ref15, Ref15b, Ref15c, RHold, RHold2, Law16b, Law16c, Law16d.
-/
import Derived.Test.YtbpbdigehfkjjaaM0
import Derived.Test.YtbpbdigehfkjjaaCls
import Derived.Test.YtbpbdigehfkjjaaRow0
import Derived.Test.YtbpbdigehfkjjaaSprecentorlaw16
import Derived.Test.YtbpbdigehfkjjaaSprecentorref9
import Derived.Test.YtbpbdigehfkjjaaSprecentorref14
set_option linter.unusedVariables false
set_option linter.unusedSimpArgs false
/-! Law HoldKeeps: the walk. -/
namespace Go.Proofs.Ytbpbdigehfkjjaa
open Go.Ab

theorem root_extC {b : Nat} {h h' : Heap} (x : ExtC b h h') (c : Nat) : h'.root c = h.root c := by unfold Heap.root; rw [x.cls]
theorem UpK.extC {K b : Nat} {h h' : Heap} {v : AVal} (w : UpK K h v) (x : ExtC b h h') : UpK K h' v := fun c hc => by
  obtain ⟨w1, w2, w3⟩ := w c hc
  exact ⟨by rw [root_extC x]; exact w1, by rw [x.n0]; exact w2, by rw [x.next]; exact w3⟩
theorem UpK.apart {K b : Nat} {h : Heap} {v : AVal} (w : UpK K h v) (hb : h.root b < K) : Apart h b v :=
  Apart.of fun c hc q => by have := (w c hc).1; omega
theorem Tells.litW' {β : Type} {Q : β → Heap → Prop} {h : Heap} {call : Nat → FuncId → List AVal → Heap → Res AVal} {α : Type} {r : Rp α} {xs : List α} {css : List (List AVal)} {n j : Nat} {z cells : List AVal} {parts : List (Nat × Nat × AVal)} {k : Nat → AVal → Heap → Res β} (hn : r.n = n) (o : All2 (r.rep h) css xs) (hk : xs.length = j) (hc : css.flatten = cells)
    (e : bslR n z j h parts = .val (.sl h.next 0 j j n true) (h.new false cells)) (q : ∀ v h1, Gl r h h1 v xs → Wr h h1 v → Ext [] h h1 → Tells (fun m => k m v h1) Q) : Tells (fun m => arb (bslR n z j h parts) (call m) (k m)) Q := by
  simp only [e, arb_val]
  have g := (Sl.lit (h0 := h) hn o hk hc).2
  refine q _ _ g (fun b hb => ?_) (Ext.new _ _ _)
  have hl := (g.1.blk b hb).2
  simp [AVal.blks] at hb
  subst hb
  refine ⟨?_, n0_le h, hl⟩
  unfold Heap.root
  rw [Heap.cls_new, Heap.cls_ge (Nat.le_refl _)]
  exact Nat.le_refl _
theorem pair_flat {h h' : Heap} {cs : List AVal} {x : Int × Int} : pairR.rep h cs x → pairR.rep h' cs x := fun q => q
theorem attr_flat {h h' : Heap} {cs : List AVal} {x : Att} : attrR.rep h cs x → attrR.rep h' cs x := fun q => q
theorem evR_extC {K b : Nat} {h h' : Heap} {cs : List AVal} {x : Ev} (e : (evR K).rep h cs x) (y : ExtC b h h') (hb : h.root b < K) : (evR K).rep h' cs x := by
  obtain ⟨va, vs, rfl, oa, os, ua, us⟩ := e
  exact ⟨va, vs, rfl, oa.extC attr_flat y (ua.apart hb), os.extC pair_flat y (us.apart hb), ua.extC y, us.extC y⟩
theorem Hd.extC {K : Nat} {h0 h h' : Heap} {b b' : Nat} {most : Int} {s : Slots} {es : List Ev} {vs vw : AVal} (o : Hd K h0 h b most s es vs vw) (x : ExtC b' h h') (hm : h.isM b' = false) (hb : h.root b' < K) (hK : K ≤ h0.next) (u : UpK K h vs) : Hd K h0 h' b most s es vs vw := by
  have uw : UpK K h vw := UpK.of o.wr hK
  obtain ⟨⟨css, h1, h2⟩, gr⟩ := o.ev
  refine ⟨o.ob.extC x hm, o.sl.extC pair_flat x (u.apart hb), ⟨⟨css, h1.extC x (uw.apart hb), h2.imp fun _ _ k => evR_extC k x hb⟩, gr.extC x (uw.apart hb)⟩, ?_⟩
  exact UpK.extC (K := h0.next) o.wr x

theorem RawInts.feed' {h : Heap} {v : AVal} {xs : List Int} {bf : Nat} (o : RawInts h v xs) (ob : Ob h bf [v, I 0]) : Feed h bf 0 := ⟨v, 0, xs, ob, by omega, by omega, o.sl, o.small, o.old⟩

theorem Tells.litX {β : Type} {Q : β → Heap → Prop} {h h1 : Heap} {call : Nat → FuncId → List AVal → Heap → Res AVal} {n j : Nat} {z : List AVal} {parts : List (Nat × Nat × AVal)} {v : AVal} {k : Nat → AVal → Heap → Res β} (e : bslR n z j h parts = .val v h1) (q : Tells (fun m => k m v h1) Q) :
    Tells (fun m => arb (bslR n z j h parts) (call m) (k m)) Q := by
  simp only [e, arb_val]
  exact q
theorem Tells.appNW {β : Type} {Q : β → Heap → Prop} {h : Heap} {call : Nat → FuncId → List AVal → Heap → Res AVal} {α : Type} {r : Rp α} {h0 : Heap} {xs ys : List α} {s v : AVal} {n by_ : Nat} {k : Nat → AVal → Heap → Res β} (g : Gl r h0 h s xs) (wr : Wr h0 h s) (o : Sl r h v ys) (hn : r.n = n) (hl : xs.length + ys.length ≤ 2 ^ 34)
    (hby : by_ ≤ 2 ^ 12) (hle : h0.next ≤ h.next) (q : ∀ s' h', Gl r h0 h' s' (xs ++ ys) → Wr h0 h' s' → Ext s.blks h h' → (∀ S, Ext S h0 h → Ext S h0 h') → (∀ b, b ∈ s'.blks → b ∈ s.blks ∨ h.next ≤ b) → Tells (fun m => k m s' h') Q) :
    Tells (fun m => arb (appR n by_ h s v) (call m) (k m)) Q := by
  obtain ⟨s', h', q1, q2, q3, q4, q5⟩ := g.appN (by_ := by_) o hn hl hby hle
  simp only [q1, arb_val]
  exact q s' h' q2 (appR_wr q1 wr hle) q3 q4 fun b hb => (q5 b hb).imp_right fun z => by omega
theorem Wr.low {S : List Nat} {a h g : Heap} {v : AVal} (w : Wr a h v) (e : Ext S h g) : ∀ c, c ∈ v.blks → g.root c < h.next ∧ g.n0 ≤ c := fun c hc => by
  obtain ⟨w1, w2, w3⟩ := w c hc
  have := root_le g c
  exact ⟨by omega, by rw [e.n0]; exact w2⟩

/-- What is handed in, as the law changes it. -/
def keptE (x : Ev) (n : Int) : Ev := ⟨x.c, x.b, x.s, x.e, x.p, x.ats ++ [(bs [122], ⟨1, n, 0, bs [], false⟩)], [(3, 2)]⟩
def firstE (x : Ev) : Ev := ⟨x.c.tmod 6 + 1, 0, 1, 0, 0, [], [(3, 1)]⟩

section
variable {X : XTab}
/-- The end: two are told. -/
theorem keepsEnd (hX : OnlyKnown X) {Q' : AVal → Heap → Prop} (hQ : ∀ h, Q' (.bool true) h) {t : T} {g h0 : Heap} {K b bw bt : Nat} {x : Ev} {n : Int} {cv vw v56 v64 vt : AVal} (t7 : t 7 = .ptr bw 0) (t8 : t 8 = .ptr b 0) (t11 : t 11 = .ptr bt 0)
    (o : Hd K h0 g b 3 [(3, 1)] [keptE x n, firstE x] cv vw) (hle : h0.next ≤ g.next) (ow : Ob g bw (evC x v56 v64)) (oa : Sl attrR g v56 (keptE x n).ats) (os : Sl pairR g v64 [(3, 2)]) (ot : Ob g bt (evC (firstE x) .nils vt)) (hl : x.ats.length ≤ 5)
    (hbw : bw ≠ b) (hbt : bt ≠ b) :
    Tells (fun m => J_precentorlaw16_HoldKeeps_2 Try.prog (acallX Try.prog X m) m (retK Try.prog [.tmp 4]) t g) Q' := by
  have d1 : dueI [(3, 1)] [keptE x n, firstE x] = some 1 := rfl
  unfold J_precentorlaw16_HoldKeeps_2
  simp [t8]
  refine Tells.bind (hold_Next hX o hle (by simp) (by simp) (by simp [keptE, firstE]) (by intro z hz; simp at hz; subst hz; simp)) ?_
  rintro _ g1 ⟨e1, y1, ⟨q, _⟩ | ⟨i, z, va, vs, hi, hz, rfl, oa1, os1, cv1, vw1, o1⟩⟩
  · rw [d1] at q; cases q
  rw [d1] at hi
  cases hi
  simp at hz
  subst hz
  have ow1 := ow.ext e1 (by simpa using ⟨hbw, o.ev.1.ob ow⟩)
  have ot1 := ot.ext e1 (by simpa using ⟨hbt, o.ev.1.ob ot⟩)
  have oas := oa.ext e1
  have oss := os.ext e1
  have hle1 := Nat.le_trans hle e1.next
  simp [extR]
  refine Tells.newSt (ds := evC (firstE x) va vs) (by rfl) (by rfl) (by rfl) (by simp [evC, oa1.one, os1.one]) fun g2 bx ox x2 l2 => ?_
  have o2 := o1.ext x2 (by simp) (by simp)
  have o2 : Hd K h0 g2 b 3 [(3, 2)] [keptE x n] cv1 vw1 := o2
  have ow2 := ow1.e x2
  have ot2 := ot1.e x2
  have d2 : dueI [(3, 2)] [keptE x n] = some 0 := rfl
  simp [t8]
  refine Tells.bind (hold_Next hX o2 (Nat.le_trans hle1 x2.next) (by simp) (by simp) (by simp [keptE]) (by intro z hz; simp at hz; subst hz; simp)) ?_
  rintro _ g3 ⟨e3, y3, ⟨q, _⟩ | ⟨i, z, va3, vs3, hi, hz, rfl, oa3, os3, cv3, vw3, o3⟩⟩
  · rw [d2] at q; cases q
  rw [d2] at hi
  cases hi
  simp at hz
  subst hz
  have hbx : bx ≠ b := by have := o1.ob.lt; omega
  have ow3 := ow2.ext e3 (by simpa using ⟨hbw, o2.ev.1.ob ow2⟩)
  have ot3 := ot2.ext e3 (by simpa using ⟨hbt, o2.ev.1.ob ot2⟩)
  have ox3 := ox.ext e3 (by simpa using ⟨hbx, o2.ev.1.ob ox⟩)
  simp [extR]
  refine Tells.newSt (ds := evC (keptE x n) va3 vs3) (by rfl) (by rfl) (by rfl) (by simp [evC, oa3.one, os3.one]) fun g4 bY oy x4 l4 => ?_
  have ow4 := ow3.e x4
  have ot4 := ot3.e x4
  have ox4 := ox3.e x4
  have ow4 : Ob g4 bw (evC (keptE x n) v56 v64) := ow4
  have e34 := (e3.then x4 (by simp))
  have oa4 := ((oas.ext x2).ext e3).ext x4
  have os4 := ((oss.ext x2).ext e3).ext x4
  have oy1 := oy.1
  have ow1' := ow4.1
  simp only [evC] at oy1 ow1'
  simp [ox4.1, ot4.1, evC, t11, t7, oy1, ow1']
  refine Tells.bind (ref_SameEvent hX (by kernel_rfl) (x := keptE x n) (va := va3) (vs := vs3) (wa := v56) (ws := v64) (oa3.ext x4) (os3.ext x4) oa4 os4 (by simp [keptE]; omega) (by simp [keptE]; omega) (by simp [keptE])) ?_
  rintro _ g5 ⟨rfl, x5⟩
  simp [sameA_self]
  exact Tells.ok (hQ _)
/-- What is handed in is written in; nothing is due; a first one is put. -/
theorem keepsMid (hX : OnlyKnown X) {Q' : AVal → Heap → Prop} (hQ : ∀ h, Q' (.bool true) h) {t : T} {g h0 : Heap} {K b be bw : Nat} {x : Ev} {n : Int} {cv vw v38 v20 v56 v64 : AVal} (t1 : t 1 = I n) (t6 : t 6 = .ptr be 0) (t7 : t 7 = .ptr bw 0) (t8 : t 8 = .ptr b 0)
    (hxc : 1 ≤ x.c ∧ x.c ≤ 6) (hl : x.ats.length ≤ 5)
    (o : Hd K h0 g b 3 [(3, 1)] [keptE x n] cv vw) (uc : UpK K g cv) (hK : K ≤ h0.next) (hle : h0.next ≤ g.next)
    (oe : Ob g be (evC x v38 v20)) (pa : Sl attrR g v38 (keptE x n).ats) (ps : Sl pairR g v20 [(3, 2)]) (wa : ∀ c, c ∈ v38.blks → g.root c < K ∧ g.n0 ≤ c) (ws : ∀ c, c ∈ v20.blks → g.root c < K ∧ g.n0 ≤ c) (ap : ∀ c, c ∈ v38.blks → Apart g c v20)
    (ow : Ob g bw (evC x v56 v64)) (oa : Sl attrR g v56 (keptE x n).ats) (os : Sl pairR g v64 [(3, 2)]) (ua : UpK K g v56) (us : UpK K g v64) (hbw : bw ≠ b) (hbe : be ≠ b) :
    Tells (fun m => J_precentorlaw16_HoldKeeps_0 Try.prog (acallX Try.prog X m) m (retK Try.prog [.tmp 4]) t g) Q' := by
  have hlen : (keptE x n).ats.length = x.ats.length + 1 := by simp [keptE]
  have hz : (keptE x n).ats[x.ats.length]? = some (bs [122], ⟨1, n, 0, bs [], false⟩) := by simp [keptE]
  have w1 : IntKind.i64.wrap (((x.ats.length + 1 : Nat) : Int) - 1) = x.ats.length := by rw [wrap_id (by omega) (by omega)]; omega
  obtain ⟨b1, p1, B1, c1, hb1, hm1, hlt1, i1, el1, hr1, k1⟩ := pokeC (n := 6) (by rfl) attr_flat pa (fun c hc => (wa c hc).2) hz
  have hr1 : c1 = attC (bs [122], ⟨1, n, 0, bs [], false⟩) := hr1
  subst hr1
  obtain ⟨hw1, _⟩ := wa b1 (by rw [hb1]; simp)
  obtain ⟨g1, st1, xc1, -, -⟩ := k1 2 (I (IntKind.i64.wrap (n + 1))) (bs [122], ⟨1, IntKind.i64.wrap (n + 1), 0, bs [], false⟩) (by decide) rfl rfl rfl
  have o1 := o.extC xc1 hm1 hw1 hK uc
  have uc1 := uc.extC xc1
  have oe1 := oe.extC xc1 hm1
  have ps1 := ps.extC pair_flat xc1 (ap b1 (by rw [hb1]; simp))
  have ow1 := ow.extC xc1 hm1
  have oa1 := oa.extC attr_flat xc1 (ua.apart hw1)
  have os1 := os.extC pair_flat xc1 (us.apart hw1)
  have ua1 := ua.extC xc1
  have us1 := us.extC xc1
  obtain ⟨b2, p2, B2, c2, hb2, hm2, hlt2, i2, el2, hr2, k2⟩ := pokeC (n := 2) (by rfl) pair_flat ps1 (fun c hc => by rw [xc1.n0]; exact (ws c hc).2) (i := 0) (y := (3, 2)) rfl
  have hr2 : c2 = [I 3, I 2] := hr2
  subst hr2
  have hw2 : g1.root b2 < K := by rw [root_extC xc1]; exact (ws b2 (by rw [hb2]; simp)).1
  obtain ⟨g2, st2, xc2, -, -⟩ := k2 1 (I 1) (3, 1) (by decide) rfl rfl rfl
  have o2 := o1.extC xc2 hm2 hw2 hK uc1
  have uc2 := uc1.extC xc2
  have oe2 := oe1.extC xc2 hm2
  have ow2 := ow1.extC xc2 hm2
  have oa2 := oa1.extC attr_flat xc2 (ua1.apart hw2)
  have os2 := os1.extC pair_flat xc2 (us1.apart hw2)
  have hle2 : h0.next ≤ g2.next := by rw [xc2.next, xc1.next]; exact hle
  have st1 : stR 1 g (.ptr b1 (p1 + 1 + 1)) (.int .i64 (IntKind.i64.wrap (n + 1))) = .val aUndef g1 := st1
  have st1' : stR 1 g (.ptr b1 (p1 + 2)) (.int .i64 (IntKind.i64.wrap (n + 1))) = .val aUndef g1 := st1
  have i2 : ixsR 2 v20 (.int .i64 0) = some (.ptr b2 p2) := i2
  have w1' : IntKind.i64.wrap (x.ats.length : Int) = x.ats.length := wrap_id (by omega) (by omega)
  have len1 : lenL v38 = some (I ((x.ats.length : Int) + 1)) := by have := pa.len; rw [hlen] at this; exact this
  simp [J_precentorlaw16_HoldKeeps_0, t1, t6, t8, oe.1, evC, len1, w1', i1, st1, st1', oe1.1, i2, st2]
  have d0 : dueI [(3, 1)] [keptE x n] = none := rfl
  refine Tells.bind (hold_Next hX o2 hle2 (by simp) (by simp) (by simp [keptE]) (by intro z hz; simp at hz; subst hz; simp)) ?_
  rintro _ g3 ⟨e3, y3, ⟨_, rfl, o3⟩ | ⟨i, z, va, vs, hi, _⟩⟩
  rotate_left
  · rw [d0] at hi; cases hi
  have oe3 := oe2.ext e3 (by simpa using ⟨hbe, o2.ev.1.ob oe2⟩)
  have ow3 := ow2.ext e3 (by simpa using ⟨hbw, o2.ev.1.ob ow2⟩)
  have oa3 := oa2.ext e3
  have os3 := os2.ext e3
  have hle3 := Nat.le_trans hle2 e3.next
  simp [extR]
  refine Tells.newSt (ds := evC ev0 .nils .nils) (by rfl) (by rfl) (by rfl) (by rfl) fun g4 bz oz x4 l4 => ?_
  have oe4 := oe3.e x4
  have ow4 := ow3.e x4
  have o4 := o3.ext x4 (by simp) (by simp)
  have rem : ∀ y z, aBin Try.prog .rem 3 y z (I x.c) (I 6) = some (I (x.c.tmod 6)) := fun y z => aBin_rem _ _ _ _ _ _ _ (by decide)
  have hmod : 0 ≤ x.c.tmod 6 ∧ x.c.tmod 6 < 6 := ⟨Int.tmod_nonneg _ (by omega), Int.tmod_lt_of_pos _ (by omega)⟩
  have w2 : IntKind.i64.wrap (x.c.tmod 6) = x.c.tmod 6 := wrap_id (by omega) (by omega)
  have w3 : IntKind.i64.wrap (x.c.tmod 6 + 1) = x.c.tmod 6 + 1 := wrap_id (by omega) (by omega)
  simp [J_precentorlaw16_HoldKeeps_1, t6, oe4.1, evC, rem, w3, bldR, fillR, splice]
  refine Tells.litW' (r := pairR) (xs := [(3, 1)]) (css := [[I 3, I 1]]) (by rfl) ⟨rfl, trivial⟩ (by rfl) (by rfl) (bsl1_agg (by rfl) (by rfl)) fun v5 g5 gl5 wr5 x5 => ?_
  have o5 := o4.ext x5 (by simp) (by simp)
  have ow5 := ow4.e x5
  simp [gl5.1.known, gl5.1.cells]
  refine Tells.newSt (ds := evC (firstE x) .nils v5) (by rfl) (by rfl) (by rfl) (by simp [evC, gl5.1.one]) fun g6 bt ot x6 l6 => ?_
  have o6 := o5.ext x6 (by simp) (by simp)
  have ow6 := ow5.e x6
  have ot1 := ot.1
  simp only [evC] at ot1
  have hle6 : h0.next ≤ g6.next := Nat.le_trans hle3 (Nat.le_trans x4.next (Nat.le_trans x5.next x6.next))
  simp [t8, ot1, firstE]
  refine Tells.bind (hold_Put hX o6 (Nat.le_trans hK hle6) hle6 (by simp) (x := firstE x) (va := .nils) (vs := v5) Sl.nil (gl5.1.ext x6) (by simp [firstE]) (by simp [firstE])) ?_
  rintro _ g7 ⟨rfl, ⟨vw7, o7⟩, e7, y7⟩
  have hheld : heldE [keptE x n] (firstE x) = false := by
    have : x.c ≠ x.c.tmod 6 + 1 := by
      rcases (show x.c = 1 ∨ x.c = 2 ∨ x.c = 3 ∨ x.c = 4 ∨ x.c = 5 ∨ x.c = 6 by omega) with q | q | q | q | q | q <;> rw [q] <;> decide
    simp [heldE, keptE, firstE, this]
  have hput : putE 3 [keptE x n] (firstE x) = (0, [keptE x n, firstE x]) := by simp [putE, hheld]
  rw [hput] at o7
  have hbt : bt ≠ b := by have := o5.ob.lt; omega
  have ow7 := ow6.ext e7 (by simpa using ⟨hbw, o6.ev.1.ob ow6⟩)
  have ot7 := ot.ext e7 (by simpa using ⟨hbt, o6.ev.1.ob ot⟩)
  simp [hput]
  exact keepsEnd hX hQ (by simp [t7]) (by simp [t8]) (by simp) o7 (Nat.le_trans hle6 e7.next) ow7 ((((oa3.ext x4).ext x5).ext x6).ext e7) ((((os3.ext x4).ext x5).ext x6).ext e7) ot7 hl hbw hbt

theorem keeps (hX : OnlyKnown X) (hk : X F_precentorlaw16_known [] = some (.bool true)) {h : Heap} {v1 : AVal} {xs1 : List Int} (r1 : RawInts h v1 xs1) (n : Int) (hn : In64 n) :
    Tells (fun m => acallX Try.prog X m F_precentorlaw16_HoldKeeps [v1, I n] h) fun a _ => a = .bool true := by
  refine R_precentorlaw16_HoldKeeps _ _ (hX _ _ rfl) ?_
  refine Tells.prot fun Q' hQ => ?_
  unfold S_precentorlaw16_HoldKeeps
  simp [bldR, fillR, splice, r1.sl.known, r1.sl.cells]
  refine Tells.box rfl rfl fun h1 bf of x1 l1 => ?_
  have f1 : Feed h1 bf 0 := RawInts.feed' (r1.ext x1) of
  try simp
  refine Tells.bind (EventH hX f1 (by omega)) ?_
  rintro _ h2 ⟨x, va, vs, rfl, fe, ga, wa, gs, ws, hd, x2, f2⟩
  refine Tells.newSt (ds := evC x va vs) (by rfl) (by rfl) (by rfl) (by simp [evC, ga.1.one, gs.1.one]) fun h3 be oe x3 l3 => ?_
  try simp
  refine Tells.litX (v := .sl h3.next 0 1 1 2 true) (h1 := h3.new false [I 3, I 2]) (bsl1_agg (by rfl) (by rfl)) ?_
  have x4 := Ext.new h3 false [I 3, I 2]
  have s4 : Sl pairR (h3.new false [I 3, I 2]) (.sl h3.next 0 1 1 2 true) [(3, 2)] := (Sl.lit (r := pairR) (xs := [(3, 2)]) (h0 := h3) (css := [[I 3, I 2]]) rfl ⟨rfl, trivial⟩ rfl rfl).1
  have c4 : (h3.new false [I 3, I 2]).cls h3.next = none := by rw [Heap.cls_new]; exact Heap.cls_ge (Nat.le_refl _)
  have n4 : h3.next < (h3.new false [I 3, I 2]).next := (s4.blk h3.next (by simp [AVal.blks])).2
  have w4 : Wr h3 (h3.new false [I 3, I 2]) (.sl h3.next 0 1 1 2 true) := fun c hc => by
    simp [AVal.blks] at hc
    subst hc
    refine ⟨?_, by rw [x4.n0]; exact n0_le h3, n4⟩
    unfold Heap.root
    rw [c4]
    exact Nat.le_refl _
  have vk : (AVal.sl h3.next 0 1 1 2 true).cells = [AVal.sl h3.next 0 1 1 2 true] := rfl
  have v1k : (AVal.sl h3.next 0 1 1 2 true).one = true := rfl
  have vb : ∀ c, c ∈ (AVal.sl h3.next 0 1 1 2 true).blks → c = h3.next := fun c hc => by simpa [AVal.blks] using hc
  generalize hv20 : AVal.sl h3.next 0 1 1 2 true = v20 at s4 w4 vk v1k vb
  generalize h3.new false [I 3, I 2] = h4 at x4 s4 c4 n4 w4
  have oe4 := oe.e x4
  try simp
  refine Tells.st1 oe4 vk v1k (by simp [evC]) fun h5 oe5 x5 => ?_
  have oe5 : Ob h5 be (evC x va v20) := oe5
  have ga5 := ((ga.e x3).e x4).ext x5 (fun c hc q => (((ga.e x3).e x4).1.ob oe4) (by rw [← List.mem_singleton.1 q]; exact hc))
  have wa5 := (((wa.ext x3).ext x4).ext x5)
  have hle5 : h1.next ≤ h5.next := Nat.le_trans x2.next (Nat.le_trans x3.next (Nat.le_trans x4.next x5.next))
  simp [oe5.1, evC]
  refine Tells.app1W ga5 wa5 (by rfl) (by rfl) (show attrR.rep h5 (attC (bs [122], ⟨1, n, 0, bs [], false⟩)) (bs [122], ⟨1, n, 0, bs [], false⟩) from rfl) (by rfl) (by rfl) (by have := fe.ats; omega) (by decide) hle5 fun v38 h6 g6 w6 x6 y6 z6 => ?_
  have oe6 := oe5.ext x6 (ga5.1.ob oe5)
  try simp
  refine Tells.st1 oe6 g6.1.cells g6.1.one (by simp [evC]) fun h7 oe7 x7 => ?_
  have oe7 : Ob h7 be (evC x v38 v20) := oe7
  have a7 := g6.1.ext x7
  have s7 := ((s4.ext x5).ext x6).ext x7
  simp [oe7.1, evC]
  refine Tells.newSt (ds := evC x v38 v20) (by rfl) (by rfl) (by rfl) (by simp [evC, a7.one, s7.one]) fun h8 bw ow x8 l8 => ?_
  have hew : be ≠ bw := by have := oe7.lt; omega
  have oe8 := oe7.e x8
  try simp
  refine Tells.litW' (r := attrR) (xs := ([] : List Att)) (css := []) (by rfl) trivial (by rfl) (by rfl) (bsl0 6 h8) fun v50 h9 g9 w9 x9 => ?_
  have oe9 := oe8.e x9
  have a9 := (a7.ext x8).ext x9
  simp [oe9.1, evC]
  refine Tells.appNW g9 w9 a9 (by rfl) (by have := fe.ats; simp; omega) (by decide) x9.next fun v56 h10 g10 w10 _ y10 z10 => ?_
  have x810 : Ext [] h8 h10 := y10 _ x9
  simp only [List.nil_append] at g10
  have oe10 := oe8.e x810
  have ow10 := ow.e x810
  try simp
  refine Tells.st1 ow10 g10.1.cells g10.1.one (by simp [evC]) fun h11 ow11 x11 => ?_
  have ow11 : Ob h11 bw (evC x v56 v20) := ow11
  have oe11 := oe10.ext x11 (by simpa using hew)
  try simp
  refine Tells.litW' (r := pairR) (xs := [(3, 2)]) (css := [[I 3, I 2]]) (by rfl) ⟨rfl, trivial⟩ (by rfl) (by rfl) (bsl1_agg (by rfl) (by rfl)) fun v64 h12 g12 w12 x12 => ?_
  have ow12 := ow11.e x12
  have oe12 := oe11.e x12
  try simp
  refine Tells.st1 ow12 g12.1.cells g12.1.one (by simp [evC]) fun h13 ow13 x13 => ?_
  have ow13 : Ob h13 bw (evC x v56 v64) := ow13
  have oe13 := oe12.ext x13 (by simpa using hew)
  try simp
  refine Tells.litW' (r := intR) (xs := [3]) (css := [[I 3]]) (by rfl) ⟨rfl, trivial⟩ (by rfl) (by rfl) (bsl1_int _ _ _ _) fun v70 h14 g14 w14 x14 => ?_
  try simp
  refine Tells.bind (hold_New hX 3 g14.1 (by simp) h7.next) ?_
  rintro _ h15 ⟨b, cv, rfl, o15, wc, x15, l15⟩
  have o15 : Hd h7.next h14 h15 b 3 [(3, 1)] [] cv .nils := o15
  try simp
  refine Tells.bind (known_X hk h15) ?_
  rintro _ h15 ⟨rfl, rfl⟩
  have oe15 := (oe13.e x14).e x15
  have ow15 := (ow13.e x14).e x15
  have x715 : Ext [be, bw] h7 h15 := ((((((x8.of.trans x810.of).trans (x11.mono (by simp))).trans x12.of).trans (x13.mono (by simp))).trans x14.of).trans x15.of)
  have pn := fun y z => ptr_nil (t := 36) Try.underlying36 y z b 0
  have a15 : Sl attrR h15 v38 (keptE x n).ats := a7.ext x715
  have s15 : Sl pairR h15 v20 [(3, 2)] := s7.ext x715
  have hK14 : h7.next ≤ h14.next := Nat.le_trans x8.next (Nat.le_trans x810.next (Nat.le_trans x11.next (Nat.le_trans x12.next (Nat.le_trans x13.next x14.next))))
  simp [pn, oe15.1, evC]
  refine Tells.bind (hold_Put hX o15 (Nat.le_trans hK14 x15.next) x15.next (by simp) (x := keptE x n) (va := v38) (vs := v20) a15 s15 (by have := fe.ats; simp [keptE]; omega) (by simp [keptE])) ?_
  rintro _ h16 ⟨rfl, ⟨vw, o16⟩, e16, y16⟩
  have hp : putE 3 [] (keptE x n) = (0, [keptE x n]) := rfl
  rw [hp] at o16
  have hbe : be ≠ b := by have := oe13.lt; have := x14.next; omega
  have hbw : bw ≠ b := by have := ow13.lt; have := x14.next; omega
  have oe16 := oe15.ext e16 (by simpa [AVal.blks] using hbe)
  have ow16 := ow15.ext e16 (by simpa [AVal.blks] using hbw)
  have x716 : Ext [be, bw, b] h7 h16 := (x715.mono (by simp)).trans (e16.mono (by simp [AVal.blks]))
  have x416 : Ext (be :: bw :: b :: va.blks) h4 h16 := (((x5.mono (by simp)).trans (x6.mono (by simp; intros; simp [*]))).trans (x7.mono (by simp))).trans (x716.mono (by simp))
  have x1016 : Ext [bw, b] h10 h16 := (((((x11.mono (by simp)).trans x12.of).trans (x13.mono (by simp))).trans x14.of).trans x15.of).trans (e16.mono (by simp [AVal.blks]))
  have x1216 : Ext [bw, b] h12 h16 := (((x13.mono (by simp)).trans x14.of).trans x15.of).trans (e16.mono (by simp [AVal.blks]))
  have x616 : Ext [be, bw, b] h6 h16 := (x7.mono (by simp)).trans x716
  simp [hp]
  refine keepsMid hX (fun g => hQ _ _ rfl) (K := h7.next) (n := n) (x := x) (by simp) (by simp) (by simp) (by simp) fe.c fe.ats o16 ((UpK.of wc hK14).ext e16) hK14 (Nat.le_trans x15.next e16.next) oe16 (a7.ext x716) (s7.ext x716) (fun c hc => ?_) (fun c hc => ?_) (fun c hc => ?_) ow16 (g10.1.ext x1016) (g12.1.ext x1216) ((UpK.of w10 x8.next).ext x1016) ((UpK.of w12 ?_).ext x1216) hbw hbe
  · have q := Wr.low w6 x616 c hc; have := x7.next; exact ⟨by omega, q.2⟩
  · have q := Wr.low w4 x416 c hc; have := x5.next; have := x6.next; have := x7.next; exact ⟨by omega, q.2⟩
  · intro c' hc'
    have := vb c' hc'
    subst this
    have h4c := x416.cls h3.next n4
    refine ⟨fun q => ?_, fun r hr => by rw [h4c, c4]; simp⟩
    rcases z6 c hc with q1 | q1
    · have := (wa c q1).2.2; have := x3.next; omega
    · have := x5.next; omega
  · exact Nat.le_trans x8.next (Nat.le_trans x810.next x11.next)
end
end Go.Proofs.Ytbpbdigehfkjjaa

/-! Slots: what New makes of places. -/
namespace Go.Proofs.Ytbpbdigehfkjjaa
open Go.Ab

/-- A place comes into rising slots. -/
def insR : Slots → Int → Slots
  | [], p => [(p, 1)]
  | (q, n) :: r, p => if q < p then (q, n) :: insR r p else if q = p then (q, n) :: r else (p, 1) :: (q, n) :: r
theorem ins_eq : ∀ {s : Slots} {p : Int}, ¬ p < 0 → ins s p = insR s p
  | [], p, h => by simp [ins, below, insR, h]
  | (q, n) :: r, p, h => by
    have ih := ins_eq (s := r) h
    unfold ins at ih ⊢
    simp only [h, false_or] at ih ⊢
    by_cases hq : q < p
    · simp only [below, insR, if_pos hq, List.getElem?_cons_succ, List.take_succ_cons, List.drop_succ_cons]
      rw [← ih]
      split <;> simp
    · simp only [below, insR, if_neg hq, List.getElem?_cons_zero, Option.map_some, Option.some.injEq]
      split <;> simp
theorem insR_mem : ∀ {s : Slots} {p : Int} {x : Int × Int}, x ∈ insR s p → x ∈ s ∨ x = (p, 1)
  | [], p, x, h => by simp [insR] at h; exact .inr h
  | (q, n) :: r, p, x, h => by
    simp only [insR] at h
    split at h
    · rcases List.mem_cons.1 h with h | h
      · exact .inl (by simp [h])
      · rcases insR_mem h with h | h
        · exact .inl (by simp [h])
        · exact .inr h
    · split at h
      · exact .inl h
      · rcases List.mem_cons.1 h with h | h
        · exact .inr h
        · exact .inl h
theorem insR_has : ∀ {s : Slots} {p q : Int}, has (insR s p) q = (has s q || p == q)
  | [], p, q => by simp [insR, has]
  | (a, n) :: r, p, q => by
    simp only [insR]
    split
    · have := insR_has (s := r) (p := p) (q := q)
      simp only [has, List.any_cons] at this ⊢
      rw [this, Bool.or_assoc]
    · split
      · rename_i e
        subst e
        simp only [has, List.any_cons]
        cases (a == q) <;> simp
      · simp only [has, List.any_cons]
        cases (a == q) <;> cases (p == q) <;> simp
/-- Rising places, each first. -/
def Up (s : Slots) : Prop := s.Pairwise fun x y => x.1 < y.1
theorem insR_up : ∀ {s : Slots} {p : Int}, Up s → Up (insR s p)
  | [], p, h => by simp [insR, Up]
  | (a, n) :: r, p, h => by
    unfold Up at h
    rw [List.pairwise_cons] at h
    simp only [insR]
    split
    · rename_i hq
      refine List.pairwise_cons.2 ⟨fun y hy => ?_, insR_up h.2⟩
      rcases insR_mem hy with hy | rfl
      · exact h.1 y hy
      · exact hq
    · split
      · exact List.pairwise_cons.2 h
      · rename_i h1 h2
        refine List.pairwise_cons.2 ⟨fun y hy => ?_, List.pairwise_cons.2 h⟩
        rcases List.mem_cons.1 hy with rfl | hy
        · simp; omega
        · have := h.1 y hy; simp at this ⊢; omega
/-- What New makes. -/
structure Fresh (s : Slots) : Prop where
  up : Up s
  one : ∀ x, x ∈ s → x.2 = 1
  pos : ∀ x, x ∈ s → 0 ≤ x.1
theorem Fresh.ins {s : Slots} (h : Fresh s) (p : Int) : Fresh (ins s p) := by
  by_cases hp : p < 0
  · have : Go.Proofs.Ytbpbdigehfkjjaa.ins s p = s := by unfold Go.Proofs.Ytbpbdigehfkjjaa.ins; rw [if_pos (.inl hp)]
    rw [this]; exact h
  · rw [ins_eq hp]
    refine ⟨insR_up h.up, fun x hx => ?_, fun x hx => ?_⟩
    · rcases insR_mem hx with hx | rfl
      · exact h.one x hx
      · rfl
    · rcases insR_mem hx with hx | rfl
      · exact h.pos x hx
      · simp; omega
theorem ins_has {s : Slots} {p q : Int} : has (ins s p) q = (has s q || (decide (0 ≤ p) && p == q)) := by
  by_cases hp : p < 0
  · have : ins s p = s := by unfold ins; rw [if_pos (.inl hp)]
    rw [this]
    simp [show ¬ 0 ≤ p by omega]
  · rw [ins_eq hp, insR_has]
    simp [show 0 ≤ p by omega]
theorem fold_fresh : ∀ {ps : List Int} {s : Slots}, Fresh s → Fresh (ps.foldl ins s)
  | [], s, h => h
  | p :: r, s, h => by rw [List.foldl_cons]; exact fold_fresh (h.ins p)
theorem newS_fresh (ps : List Int) : Fresh (newS ps) := fold_fresh ⟨List.Pairwise.nil, by simp, by simp⟩
theorem fold_has : ∀ {ps : List Int} {s : Slots} {q : Int}, has (ps.foldl ins s) q = (has s q || ps.any fun p => decide (0 ≤ p) && p == q)
  | [], s, q => by simp
  | p :: r, s, q => by
    rw [List.foldl_cons, fold_has, ins_has, List.any_cons, Bool.or_assoc]
theorem newS_has (ps : List Int) (q : Int) : has (newS ps) q = ps.any fun p => decide (0 ≤ p) && p == q := by
  unfold newS; rw [fold_has]; simp [has]
theorem Fresh.nx {s : Slots} (h : Fresh s) {q : Int} (hq : has s q = true) : nxt s q = 1 := h.one _ (List.mem_of_getElem? (has_idx hq).2)
theorem Fresh.small {s : Slots} (h : Fresh s) : Small s 1 := fun x hx => by rw [h.one x hx]; omega
theorem newS_nxt {ps : List Int} {p : Int} (hp : p ∈ ps) : nxt (newS ps) p = if 0 ≤ p then 1 else 0 := by
  split
  · rename_i h
    refine (newS_fresh ps).nx ?_
    rw [newS_has, List.any_eq_true]
    exact ⟨p, hp, by simp [h]⟩
  · rename_i h
    refine not_has_nxt ?_
    rw [newS_has, List.any_eq_false]
    intro q hq
    simp
    intro h2 h3
    omega
theorem Fresh.at {s : Slots} (h : Fresh s) {i : Nat} {a : Int} (ha : (s.map (·.1))[i]? = some a) : has s a = true ∧ nxt s a = 1 := by
  have : has s a = true := by
    rw [has_places, List.any_eq_true]
    exact ⟨a, List.mem_of_getElem? ha, by simp⟩
  exact ⟨this, h.nx this⟩
theorem Fresh.rise {s : Slots} (h : Fresh s) {i : Nat} {a b : Int} (ha : (s.map (·.1))[i]? = some a) (hb : (s.map (·.1))[i + 1]? = some b) : a < b := by
  have := h.up
  unfold Up at this
  rw [List.pairwise_iff_getElem] at this
  obtain ⟨h1, h2⟩ := List.getElem?_eq_some_iff.1 ha
  obtain ⟨h3, h4⟩ := List.getElem?_eq_some_iff.1 hb
  simp at h1 h2 h3 h4
  have := this i (i + 1) h1 h3 (by omega)
  rw [h2, h4] at this
  exact this

end Go.Proofs.Ytbpbdigehfkjjaa

/-! The document's own clock: what its functions tell. -/
namespace Go.Proofs.Ytbpbdigehfkjjaa
open Go.Ab

/-- Places and numbers, in two rows. -/
def Two (h : Heap) (p n : AVal) (s : Slots) : Prop := Sl intR h p (s.map (·.1)) ∧ Sl intR h n (s.map (·.2))
theorem Two.ext {S : List Nat} {h h' : Heap} {p n : AVal} {s : Slots} (o : Two h p n s) (x : Ext S h h') : Two h' p n s := ⟨o.1.ext x, o.2.ext x⟩

/-- Rising, and each due. -/
def riseF : Option Int → List (Int × Int) → Bool
  | _, [] => true
  | prev, (a, n) :: r => (match prev with | some b => decide (b < a) | none => true) && riseF (some a) r
def fits (s : Slots) (l : List (Int × Int)) : Bool := l.all fun x => !has s x.1 || decide (nxt s x.1 = x.2)
theorem dueF_split (s : Slots) : ∀ (l : List (Int × Int)) (p : Option Int), dueF s p l = (riseF p l && fits s l)
  | [], p => rfl
  | (a, n) :: r, p => by
    have := dueF_split s r (some a)
    unfold fits at this ⊢
    simp only [dueF, riseF, List.all_cons, this]
    ac_rfl
theorem riseF_at {l : List (Int × Int)} {i : Nat} {a n : Int} (h : l[i]? = some (a, n)) (prev : Option Int) : riseF prev (l.drop i) = ((match prev with | some b => decide (b < a) | none => true) && riseF (some a) (l.drop (i + 1))) := by
  have hlt := (List.getElem?_eq_some_iff.1 h).1
  rw [List.drop_eq_getElem_cons hlt, (List.getElem?_eq_some_iff.1 h).2]
  rfl
theorem fits_at {s : Slots} {l : List (Int × Int)} {i : Nat} {a n : Int} (h : l[i]? = some (a, n)) : fits s (l.drop i) = ((!has s a || decide (nxt s a = n)) && fits s (l.drop (i + 1))) := by
  have hlt := (List.getElem?_eq_some_iff.1 h).1
  rw [List.drop_eq_getElem_cons hlt, (List.getElem?_eq_some_iff.1 h).2]
  rfl

section
variable {X : XTab}

theorem ref_In (hX : OnlyKnown X) {h : Heap} {v : AVal} {xs : List Int} (o : Sl intR h v xs) (hl : xs.length < 2 ^ 62) (a : Int) :
    Tells (fun q => acallX Try.prog X q F_precentorref9_In [v, I a] h) fun r h' => r = .bool (xs.any (· == a)) ∧ h' = h := by
  refine R_precentorref9_In _ _ (hX _ _ rfl) ?_
  refine Tells.prot fun Q' hQ => ?_
  unfold S_precentorref9_In
  simp
  refine Tells.bind (Tells.loop (fun n t g => ∃ i : Nat, t 0 = v ∧ t 1 = I a ∧ t 5 = I i ∧ i + n = xs.length ∧ g = h ∧ (xs.any (· == a)) = ((xs.drop i).any (· == a)))
    (Q := fun p g => g = h ∧ ((p.1 = .exit 0 ∧ (xs.any (· == a)) = false) ∨ (p.1 = .ret ∧ p.2 4 = .bool true ∧ (xs.any (· == a)) = true))) ?_ xs.length _ _ ?_) ?_
  · rintro n t g ⟨i, t0, t1, t5, hi, rfl, ha⟩
    refine Tells.prot fun Q2 hQ2 => ?_
    unfold L_precentorref9_In_1
    simp [t5, t0, o.len]
    refine Tells.cb (fun hc => ?_) (fun hc => ?_)
    · simp at hc
      obtain ⟨x, hdi⟩ : ∃ d, xs[i]? = some d := ⟨_, List.getElem?_eq_getElem hc⟩
      have hd : xs.drop i = x :: xs.drop (i + 1) := by
        rw [List.drop_eq_getElem_cons hc]; congr 1; exact (List.getElem?_eq_some_iff.1 hdi).2
      obtain ⟨b, pp, B, q1, q2, q3⟩ := o.atI hdi
      have w : IntKind.i64.wrap ((i : Int) + 1) = i + 1 := wrap_id (by omega) (by omega)
      rw [hd, List.any_cons] at ha
      by_cases e : x = a
      · subst e
        simp [J_precentorref9_In_2, t0, t5, t1, q1, q2, q3]
        exact Tells.ok (hQ2 _ _ (.inr ⟨by simp, rfl, .inr ⟨rfl, by simp, by rw [ha]; simp⟩⟩))
      · simp [J_precentorref9_In_2, t0, t5, t1, q1, q2, q3, e, beq_eq_false_iff_ne.2 e, J_precentorref9_In_3, w]
        exact Tells.ok (hQ2 _ _ (.inl ⟨rfl, n - 1, by omega, i + 1, by simp [t0], by simp [t1], by simp, by omega, rfl, by rw [ha, beq_eq_false_iff_ne.2 e]; rfl⟩))
    · simp at hc
      exact Tells.ok (hQ2 _ _ (.inr ⟨by simp, rfl, .inl ⟨rfl, by rw [ha, List.drop_eq_nil_of_le (by omega)]; rfl⟩⟩))
  · exact ⟨0, by simp, by simp, by simp, by omega, rfl, rfl⟩
  · rintro ⟨ex, t⟩ g ⟨rfl, ⟨rfl, q⟩ | ⟨rfl, q, q'⟩⟩
    · simp [J_precentorref9_In_0]
      exact Tells.ok (hQ _ _ ⟨by rw [q], rfl⟩)
    · simp only at q
      simp [q]
      exact Tells.ok (hQ _ _ ⟨by rw [q'], rfl⟩)

theorem nxt_drop {s : Slots} {i : Nat} {q n : Int} (h : s[i]? = some (q, n)) (p : Int) : nxt (s.drop i) p = if q = p then n else nxt (s.drop (i + 1)) p := by
  have hlt := (List.getElem?_eq_some_iff.1 h).1
  rw [List.drop_eq_getElem_cons hlt, (List.getElem?_eq_some_iff.1 h).2]
  rfl

theorem ref_Next (hX : OnlyKnown X) {h : Heap} {pv nv : AVal} {s : Slots} (o : Two h pv nv s) (hl : s.length < 2 ^ 62) (p : Int) :
    Tells (fun q => acallX Try.prog X q F_precentorref9_Clock_Next [.agg [pv, nv], I p] h) fun a h' => a = I (nxt s p) ∧ Ext [] h h' := by
  refine R_precentorref9_Clock_Next _ _ (hX _ _ rfl) ?_
  refine Tells.prot fun Q' hQ => ?_
  unfold S_precentorref9_Clock_Next
  simp
  refine Tells.box rfl rfl fun h1 bc oc x1 l1 => ?_
  try simp
  refine Tells.bind (Tells.loop (fun n t g => ∃ i : Nat, t 1 = I p ∧ t 2 = .ptr bc 0 ∧ t 5 = I i ∧ i + n = s.length ∧ g = h1 ∧ nxt s p = nxt (s.drop i) p)
    (Q := fun r g => g = h1 ∧ ((r.1 = .exit 0 ∧ nxt s p = 0) ∨ (r.1 = .ret ∧ r.2 4 = I (nxt s p)))) ?_ s.length _ _ ?_) ?_
  · rintro n t g ⟨i, t1, t2, t5, hi, rfl, ha⟩
    refine Tells.prot fun Q2 hQ2 => ?_
    have op := o.1.ext x1
    have on := o.2.ext x1
    have hlen : (s.map (·.1)).length = s.length := by simp
    unfold L_precentorref9_Clock_Next_1
    simp [t5, t2, oc.1, op.len]
    refine Tells.cb (fun hc => ?_) (fun hc => ?_)
    · simp at hc
      obtain ⟨⟨q, m⟩, hdi⟩ : ∃ d, s[i]? = some d := ⟨_, List.getElem?_eq_getElem hc⟩
      obtain ⟨b, pp, B, q1, q2, q3⟩ := op.atI (show (s.map (·.1))[i]? = some q by simp [hdi])
      obtain ⟨b', pp', B', k1, k2, k3⟩ := on.atI (show (s.map (·.2))[i]? = some m by simp [hdi])
      have w : IntKind.i64.wrap ((i : Int) + 1) = i + 1 := wrap_id (by omega) (by omega)
      rw [nxt_drop hdi] at ha
      by_cases e : q = p
      · subst e
        simp at ha
        simp [J_precentorref9_Clock_Next_2, t2, oc.1, t5, t1, q1, q2, q3, k1, k2, k3]
        exact Tells.ok (hQ2 _ _ (.inr ⟨by simp, rfl, .inr ⟨rfl, by simp [ha]⟩⟩))
      · rw [if_neg e] at ha
        simp [J_precentorref9_Clock_Next_2, t2, oc.1, t5, t1, q1, q2, q3, e, beq_eq_false_iff_ne.2 e, J_precentorref9_Clock_Next_3, w]
        exact Tells.ok (hQ2 _ _ (.inl ⟨rfl, n - 1, by omega, i + 1, by simp [t1], by simp [t2], by simp, by omega, rfl, ha⟩))
    · simp at hc
      exact Tells.ok (hQ2 _ _ (.inr ⟨by simp, rfl, .inl ⟨rfl, by rw [ha, List.drop_eq_nil_of_le (by omega)]; rfl⟩⟩))
  · exact ⟨0, by simp, by simp, by simp, by omega, rfl, rfl⟩
  · rintro ⟨ex, t⟩ g ⟨rfl, ⟨rfl, q⟩ | ⟨rfl, q⟩⟩
    · simp [J_precentorref9_Clock_Next_0]
      exact Tells.ok (hQ _ _ ⟨by rw [q], x1⟩)
    · simp only at q
      simp [q]
      exact Tells.ok (hQ _ _ ⟨rfl, x1⟩)

theorem ref_Due (hX : OnlyKnown X) {h : Heap} {pv nv u : AVal} {s : Slots} {l : List (Int × Int)} (o : Two h pv nv s) (hl : s.length < 2 ^ 62) (ou : Sl pairR h u l) (hu : l.length < 2 ^ 62) :
    Tells (fun q => acallX Try.prog X q F_precentorref9_Clock_Due [.agg [pv, nv], u] h) fun a h' => a = .bool (due s l) ∧ Ext [] h h' := by
  refine R_precentorref9_Clock_Due _ _ (hX _ _ rfl) ?_
  refine Tells.prot fun Q' hQ => ?_
  have hds : due s l = (riseF none l && fits s l) := dueF_split s l none
  unfold S_precentorref9_Clock_Due
  simp
  refine Tells.box rfl rfl fun h1 bc oc x1 l1 => ?_
  try simp
  refine Tells.bind (Tells.loop (fun n t g => ∃ i : Nat, t 1 = u ∧ t 2 = .ptr bc 0 ∧ t 5 = I i ∧ i + n = l.length ∧ riseF none l = riseF (prevOf l i) (l.drop i) ∧ g = h1)
    (Q := fun pp g => g = h1 ∧ ((pp.1 = .exit 0 ∧ pp.2 1 = u ∧ pp.2 2 = .ptr bc 0 ∧ riseF none l = true) ∨ (pp.1 = .ret ∧ pp.2 4 = .bool false ∧ riseF none l = false))) ?_ l.length _ _ ?_) ?_
  · rintro n t g ⟨i, t1, t2, t5, hi, hd, rfl⟩
    refine Tells.prot fun Q2 hQ2 => ?_
    have ou := ou.ext x1
    unfold L_precentorref9_Clock_Due_5
    simp [t5, t1, ou.len]
    refine Tells.cb (fun hc => ?_) (fun hc => ?_)
    · simp at hc
      obtain ⟨⟨a, n'⟩, hdi⟩ : ∃ d, l[i]? = some d := ⟨_, List.getElem?_eq_getElem hc⟩
      rw [riseF_at hdi] at hd
      obtain ⟨b, pp, B, q1, q2, q3, q4, q5⟩ := pair_at ou hdi
      have w : IntKind.i64.wrap ((i : Int) + 1) = i + 1 := wrap_id (by omega) (by omega)
      cases i with
      | zero =>
        simp [J_precentorref9_Clock_Due_6, t5, J_precentorref9_Clock_Due_7]
        exact Tells.ok (hQ2 _ _ (.inl ⟨rfl, n - 1, by omega, 1, by simp [t1], by simp [t2], by simp; rfl, by omega, by rw [hd]; simp [prevOf, hdi], rfl⟩))
      | succ j =>
        obtain ⟨⟨a0, n0⟩, hdj⟩ : ∃ d, l[j]? = some d := ⟨_, List.getElem?_eq_getElem (by omega)⟩
        obtain ⟨b', p', B', k1, k2, k3, k4, k5⟩ := pair_at ou hdj
        have pos : (0 : Int) < (j : Int) + 1 := by omega
        have wj : IntKind.i64.wrap (j : Int) = j := wrap_id (by omega) (by omega)
        have ep : prevOf l (j + 1) = some a0 := by simp [prevOf, hdj]
        rw [ep] at hd
        have q1' : ixsR 2 u (I ((j : Int) + 1)) = some (.ptr b pp) := by simpa using q1
        have w' : IntKind.i64.wrap ((j : Int) + 1 + 1) = (j : Int) + 1 + 1 := wrap_id (by omega) (by omega)
        by_cases hlt : a0 < a
        · simp [J_precentorref9_Clock_Due_6, t5, t1, pos, wj, k1, k2, k4, q1', q2, q4, show ¬ a ≤ a0 by omega, J_precentorref9_Clock_Due_7, w']
          exact Tells.ok (hQ2 _ _ (.inl ⟨rfl, n - 1, by omega, j + 2, by simp [t1], by simp [t2], by simp; omega, by omega, by rw [hd]; simp [prevOf, hdi, hlt], rfl⟩))
        · simp [J_precentorref9_Clock_Due_6, t5, t1, pos, wj, k1, k2, k4, q1', q2, q4, show a ≤ a0 by omega]
          exact Tells.ok (hQ2 _ _ (.inr ⟨by simp, rfl, .inr ⟨rfl, by simp, by rw [hd]; simp [hlt]⟩⟩))
    · simp at hc
      exact Tells.ok (hQ2 _ _ (.inr ⟨by simp, rfl, .inl ⟨rfl, by simp [t1], by simp [t2], by rw [hd, List.drop_eq_nil_of_le (by omega)]; rfl⟩⟩))
  · exact ⟨0, by simp, by simp, by simp, by omega, rfl, rfl⟩
  · rintro ⟨ex, t⟩ g ⟨rfl, ⟨rfl, t1, t2, q⟩ | ⟨rfl, q, q'⟩⟩
    · simp only at t1 t2
      simp [J_precentorref9_Clock_Due_0]
      refine Tells.bind (Tells.loop (fun n t g => ∃ i : Nat, t 1 = u ∧ t 2 = .ptr bc 0 ∧ t 6 = I i ∧ i + n = l.length ∧ fits s l = fits s (l.drop i) ∧ Ext [] h g ∧ Ob g bc [pv, nv])
        (Q := fun pp g => Ext [] h g ∧ ((pp.1 = .exit 2 ∧ fits s l = true) ∨ (pp.1 = .ret ∧ pp.2 4 = .bool false ∧ fits s l = false))) ?_ l.length _ _ ?_) ?_
      · rintro n t g ⟨i, t1, t2, t6, hi, hd, x, og⟩
        refine Tells.prot fun Q2 hQ2 => ?_
        have ou := ou.ext x
        have op := o.1.ext x
        unfold L_precentorref9_Clock_Due_2
        simp [t6, t1, ou.len]
        refine Tells.cb (fun hc => ?_) (fun hc => ?_)
        · simp at hc
          obtain ⟨⟨a, n'⟩, hdi⟩ : ∃ d, l[i]? = some d := ⟨_, List.getElem?_eq_getElem hc⟩
          rw [fits_at hdi] at hd
          obtain ⟨b, pp, B, q1, q2, q3, q4, q5⟩ := pair_at ou hdi
          have w : IntKind.i64.wrap ((i : Int) + 1) = i + 1 := wrap_id (by omega) (by omega)
          simp [J_precentorref9_Clock_Due_3, t2, og.1, t1, t6, q1, q2, q4]
          refine Tells.cbE (ref_In hX op (by simpa using hl) a) ?_
          rintro _ _ ⟨rfl, rfl⟩
          have hin : ((s.map (·.1)).any (· == a)) = has s a := (has_places s a).symm
          rw [hin]
          cases hh : has s a with
          | false =>
            simp [J_precentorref9_Clock_Due_4, t6, w]
            exact Tells.ok (hQ2 _ _ (.inl ⟨rfl, n - 1, by omega, i + 1, by simp [t1], by simp [t2], by simp, by omega, by rw [hd, hh]; rfl, x, og⟩))
          | true =>
            simp [t2, og.1, t1, t6, q1, q2, q4]
            refine Tells.cbE (ref_Next hX (o.ext x) hl a) ?_
            rintro _ h3 ⟨rfl, x3⟩
            obtain ⟨b', pp', B', k1, k2, k3, k4, k5⟩ := pair_at (ou.ext x3) hdi
            have ek1 := q1.symm.trans k1
            cases ek1
            by_cases hn : nxt s a = n'
            · simp [t1, t6, q1, q2, q5, k1, k2, k5, hn, J_precentorref9_Clock_Due_4, w]
              exact Tells.ok (hQ2 _ _ (.inl ⟨rfl, n - 1, by omega, i + 1, by simp [t1], by simp [t2], by simp, by omega, by rw [hd, hh]; simp [hn], x.trans x3, og.e x3⟩))
            · have hn2 : (nxt s a != n') = true := by simp [hn]
              simp [t1, t6, q1, q2, q5, k1, k2, k5, hn2]
              exact Tells.ok (hQ2 _ _ (.inr ⟨by simp, x.trans x3, .inr ⟨rfl, by simp, by rw [hd, hh]; simp [hn]⟩⟩))
        · simp at hc
          exact Tells.ok (hQ2 _ _ (.inr ⟨by simp, x, .inl ⟨rfl, by rw [hd, List.drop_eq_nil_of_le (by omega)]; rfl⟩⟩))
      · exact ⟨0, by simp [t1], by simp [t2], by simp, by omega, rfl, x1, oc⟩
      · rintro ⟨ex, t⟩ g ⟨x, ⟨rfl, k⟩ | ⟨rfl, k, k'⟩⟩
        · simp [J_precentorref9_Clock_Due_1]
          exact Tells.ok (hQ _ _ ⟨by rw [hds, q, k]; rfl, x⟩)
        · simp only at k
          simp [k]
          exact Tells.ok (hQ _ _ ⟨by rw [hds, q, k']; rfl, x⟩)
    · simp only at q
      simp [q]
      exact Tells.ok (hQ _ _ ⟨by rw [hds, q']; rfl, x1⟩)

end
end Go.Proofs.Ytbpbdigehfkjjaa

/-! The document's own clock: what Take, Put and NewClock tell. -/
namespace Go.Proofs.Ytbpbdigehfkjjaa
open Go.Ab

theorem up_places {s r : Slots} (h : s.map (·.1) = r.map (·.1)) (u : Up s) : Up r := by
  unfold Up at *
  have : (s.map (·.1)).Pairwise (· < ·) := List.pairwise_map.2 u
  rw [h] at this
  exact List.pairwise_map.1 this
theorem bump_map : ∀ {s : Slots} {p : Int}, Up s → bump s p = s.map fun x => (x.1, x.2 + if x.1 = p then 1 else 0)
  | [], p, h => rfl
  | (q, n) :: r, p, h => by
    unfold Up at h
    rw [List.pairwise_cons] at h
    by_cases e : q = p
    · have : r.map (fun x => (x.1, x.2 + if x.1 = p then 1 else 0)) = r := by
        refine (List.map_congr_left fun x hx => ?_).trans (List.map_id r)
        have := h.1 x hx
        simp only at this
        rw [if_neg (by omega)]; simp
      simp [bump, e, this]
    · simp [bump, e, bump_map (s := r) (p := p) h.2]
theorem bumps_map : ∀ {l : List (Int × Int)} {s : Slots}, Up s → bumps s l = s.map fun x => (x.1, x.2 + many l x.1)
  | [], s, h => by simp [bumps, many]
  | y :: l, s, h => by
    have := bumps_map (l := l) (up_places (bump_places s y.1).symm h)
    simp only [bumps, List.foldl_cons] at this ⊢
    rw [this, bump_map h, List.map_map]
    refine List.map_congr_left fun x hx => ?_
    simp only [Function.comp, many, List.countP_cons]
    by_cases e : x.1 = y.1
    · simp [e]; omega
    · simp [e, Ne.symm e]
theorem rise_lt : ∀ {l : List (Int × Int)} {a : Int}, riseF (some a) l = true → ∀ x, x ∈ l → a < x.1
  | [], a, h, x, hx => by simp at hx
  | (b, n) :: r, a, h, x, hx => by
    simp [riseF] at h
    rcases List.mem_cons.1 hx with rfl | hx
    · exact h.1
    · have := rise_lt h.2 x hx; omega
theorem many_rise : ∀ {l : List (Int × Int)} {p : Option Int} {q : Int}, riseF p l = true → many l q = if l.any (fun x => x.1 == q) = true then 1 else 0
  | [], p, q, h => rfl
  | (a, n) :: r, p, q, h => by
    have h2 : riseF (some a) r = true := by simp only [riseF, Bool.and_eq_true] at h; exact h.2
    have ih := many_rise (q := q) h2
    unfold many at ih ⊢
    simp only [List.countP_cons, List.any_cons]
    by_cases e : a = q
    · have : r.any (fun x => x.1 == q) = false := by
        rw [List.any_eq_false]
        intro x hx
        have := rise_lt h2 x hx
        simp; omega
      rw [this, if_neg (by simp)] at ih
      simp only [e, beq_self_eq_true, Bool.true_or, if_true]
      omega
    · simp only [beq_eq_false_iff_ne.2 e, Bool.false_or]
      rw [if_neg (show ¬ (false = true) by simp), Nat.add_zero]
      exact ih
theorem due_rise {s : Slots} {l : List (Int × Int)} (h : due s l = true) : riseF none l = true := by
  unfold due at h
  rw [dueF_split, Bool.and_eq_true] at h
  exact h.1
theorem take_up {s : Slots} (h : Up s) (l : List (Int × Int)) : Up (take s l) := up_places (take_places s l).symm h

def putL (xs : List Int) (p : Int) : List Int := if xs.any (· == p) = true then xs else xs.takeWhile (fun x => decide (x < p)) ++ [p] ++ xs.filter (fun x => decide (p < x))
theorem putL_ins : ∀ {s : Slots} {p : Int}, Up s → putL (s.map (·.1)) p = (insR s p).map (·.1)
  | [], p, h => by simp [putL, insR]
  | (q, n) :: r, p, h => by
    unfold Up at h
    rw [List.pairwise_cons] at h
    have ih := putL_ins (s := r) (p := p) h.2
    unfold putL at ih ⊢
    simp only [insR, List.map_cons, List.any_cons]
    by_cases h1 : q < p
    · have e1 : (q == p) = false := by simp; omega
      rw [if_pos h1, e1, Bool.false_or, List.map_cons, ← ih]
      split
      · rfl
      · simp [h1, show ¬ p < q by omega]
    · rw [if_neg h1]
      by_cases h2 : q = p
      · rw [if_pos h2]; simp [h2]
      · rw [if_neg h2]
        have e1 : (q == p) = false := by simp; omega
        have gt : ∀ x, x ∈ r.map (·.1) → p < x := fun x hx => by
          obtain ⟨y, hy, rfl⟩ := List.mem_map.1 hx
          have := h.1 y hy
          simp only at this
          omega
        have e2 : (r.map (·.1)).any (· == p) = false := by
          rw [List.any_eq_false]
          intro x hx
          have := gt x hx
          simp; omega
        have e3 : (r.map (·.1)).filter (fun x => decide (p < x)) = r.map (·.1) := List.filter_eq_self.2 fun x hx => by simpa using gt x hx
        rw [e1, e2]
        simp only [Bool.or_self, List.takeWhile_cons, List.filter_cons, decide_eq_true_eq, if_neg h1, if_pos (show p < q by omega), e3]
        simp

section
variable {X : XTab}

theorem takeInner {h : Heap} {t : T} {bc i : Nat} {pv nv u : AVal} {s : Slots} {l : List (Int × Int)} {q m : Int} (t1 : t 1 = u) (t2 : t 2 = .ptr bc 0) (t6 : t 6 = I i) (t7 : t 7 = I m) (t8 : t 8 = I 0) (oc : Ob h bc [pv, nv]) (o : Two h pv nv s) (hi : s[i]? = some (q, m)) (hm : -2 ^ 62 ≤ m ∧ m ≤ 2 ^ 62) (ou : Sl pairR h u l) (hu : l.length < 2 ^ 62) :
    Tells (fun f => loopN (L_precentorref9_Clock_Take_6 Try.prog (acallX Try.prog X f) f) f t h) fun p g => p.1 = .exit 2 ∧ g = h ∧ p.2 7 = I (m + if l.any (fun x => x.1 == q) = true then 1 else 0) ∧ p.2 1 = u ∧ p.2 2 = .ptr bc 0 ∧ p.2 4 = t 4 ∧ p.2 5 = t 5 ∧ p.2 6 = I i := by
  obtain ⟨b, pp, B, q1, q2, q3⟩ := o.1.atI (show (s.map (·.1))[i]? = some q by simp [hi])
  obtain ⟨b', pp', B', k1, k2, k3⟩ := o.2.atI (show (s.map (·.2))[i]? = some m by simp [hi])
  have wm : IntKind.i64.wrap (m + 1) = m + 1 := wrap_id (by omega) (by omega)
  refine Tells.loop (fun n t' g => ∃ k : Nat, t' 1 = u ∧ t' 2 = .ptr bc 0 ∧ t' 4 = t 4 ∧ t' 5 = t 5 ∧ t' 6 = I i ∧ t' 8 = I k ∧ t' 7 = I (m + if (l.take k).any (fun x => x.1 == q) = true then 1 else 0) ∧ k + n = l.length ∧ g = h) ?_ l.length _ _ ?_
  · rintro n t' g ⟨k, e1, e2, e4, e5, e6, e8, e7, hk, rfl⟩
    refine Tells.prot fun Q2 hQ2 => ?_
    unfold L_precentorref9_Clock_Take_6
    simp [e8, e1, ou.len]
    refine Tells.cb (fun hc => ?_) (fun hc => ?_)
    · simp at hc
      obtain ⟨⟨a, a2⟩, hdi⟩ : ∃ d, l[k]? = some d := ⟨_, List.getElem?_eq_getElem hc⟩
      obtain ⟨b1, p1, B1, j1, j2, j3, j4, j5⟩ := pair_at ou hdi
      have w : IntKind.i64.wrap ((k : Int) + 1) = k + 1 := wrap_id (by omega) (by omega)
      have st : (l.take (k + 1)).any (fun x => x.1 == q) = ((l.take k).any (fun x => x.1 == q) || a == q) := by
        rw [List.take_add_one, hdi]; simp
      by_cases e : a = q
      · subst e
        simp [J_precentorref9_Clock_Take_7, e1, e8, j1, j2, j4, e2, oc.1, e6, q1, q2, q3, k1, k2, k3, wm, J_precentorref9_Clock_Take_8, w]
        refine Tells.ok (hQ2 _ _ (.inl ⟨rfl, n - 1, by omega, k + 1, by simp [e1], by simp [e2], by simp [e4], by simp [e5], by simp [e6], by simp, ?_, by omega, rfl⟩))
        rw [st]; simp
      · simp [J_precentorref9_Clock_Take_7, e1, e8, j1, j2, j4, e2, oc.1, e6, q1, q2, q3, beq_eq_false_iff_ne.2 e, J_precentorref9_Clock_Take_8, w]
        refine Tells.ok (hQ2 _ _ (.inl ⟨rfl, n - 1, by omega, k + 1, by simp [e1], by simp [e2], by simp [e4], by simp [e5], by simp [e6], by simp, ?_, by omega, rfl⟩))
        rw [st, beq_eq_false_iff_ne.2 e, Bool.or_false]; simp [e7]
    · simp at hc
      refine Tells.ok (hQ2 _ _ (.inr ⟨by simp, rfl, rfl, ?_, by simp [e1], by simp [e2], by simp [e4], by simp [e5], by simp [e6]⟩))
      rw [List.take_of_length_le (by omega)] at e7
      simp [e7]
  · exact ⟨0, t1, t2, rfl, rfl, t6, by simpa using t8, by simp [t7], by omega, rfl⟩

theorem ref_Take (hX : OnlyKnown X) {h : Heap} {pv nv u : AVal} {s : Slots} {l : List (Int × Int)} (o : Two h pv nv s) (us : Up s) (hl : s.length < 2 ^ 30) (ou : Sl pairR h u l) (hu : l.length < 2 ^ 30) {K : Int} (hK : 0 ≤ K ∧ K < 2 ^ 61) (hs : Small s K) :
    Tells (fun q => acallX Try.prog X q F_precentorref9_Clock_Take [.agg [pv, nv], u] h) fun a h' => ∃ pv' nv', a = .agg [pv', nv'] ∧ Two h' pv' nv' (take s l) ∧ Ext [] h h' := by
  refine R_precentorref9_Clock_Take _ _ (hX _ _ rfl) ?_
  refine Tells.prot fun Q' hQ => ?_
  unfold S_precentorref9_Clock_Take
  simp
  refine Tells.box rfl rfl fun h1 bc oc x1 l1 => ?_
  try simp
  refine Tells.new fun h2 bv ov x2 l2 => ?_
  have x12 := x1.trans x2
  have oc2 := oc.e x2
  try simp [oc2.1]
  refine Tells.bind (ref_Due hX (o.ext x12) (by omega) (ou.ext x12) (by omega)) ?_
  rintro _ h3 ⟨rfl, x3⟩
  have x13 := x12.trans x3
  have oc3 := oc2.e x3
  have ov3 := ov.e x3
  have n1 := x1.next
  have n2 := x2.next
  have n3 := x3.next
  cases hd : due s l with
  | false =>
    simp [oc3.1]
    refine Tells.stN ov3 (by rfl) (by rfl) (by simp [o.1.one, o.2.one]) (by rfl) fun h9 o9 x9 => ?_
    simp [C_precentorref9_Clock_Take_0, o9.1]
    refine Tells.ok (hQ _ _ ⟨pv, nv, rfl, ?_, x13.then x9 (by simp; omega)⟩)
    unfold take
    rw [if_neg (by rw [hd]; simp)]
    exact (o.ext x13).ext x9
  | true =>
    simp [J_precentorref9_Clock_Take_0, oc3.1, bldR, fillR, splice, o.1.known, o.1.cells]
    refine Tells.new fun h4 bd od x4 l4 => ?_
    try simp
    refine Tells.stN od (by rfl) (by rfl) (by simp [o.1.one]) (by rfl) fun h5 od5 x5 => ?_
    have x15 : Ext [] h h5 := (x13.trans x4).then x5 (by simp; omega)
    have hcd : bc ≠ bd := by have := oc3.lt; omega
    have hvd : bv ≠ bd := by have := ov3.lt; omega
    have oc5 := (oc3.e x4).ext x5 (by simpa using hcd)
    have ov5 := (ov3.e x4).ext x5 (by simpa using hvd)
    have hts : take s l = s.map fun x => (x.1, x.2 + many l x.1) := by
      unfold take
      rw [if_pos hd, bumps_map us]
    try simp
    refine Tells.bind (Tells.loop (fun n t g => ∃ (i : Nat) (w : AVal), t 1 = u ∧ t 2 = .ptr bc 0 ∧ t 4 = .ptr bv 0 ∧ t 5 = .ptr bd 0 ∧ t 6 = I i ∧ i + n = s.length ∧ Ob g bc [pv, nv] ∧ Ob g bv [.nils, .nils] ∧ Ob g bd [pv, w] ∧ Gl intR h g w (((take s l).map (·.2)).take i) ∧ Ext [] h g)
      (Q := fun p g => p.1 = .exit 0 ∧ ∃ w, p.2 4 = .ptr bv 0 ∧ p.2 5 = .ptr bd 0 ∧ Ob g bv [.nils, .nils] ∧ Ob g bd [pv, w] ∧ Sl intR g w ((take s l).map (·.2)) ∧ Ext [] h g) ?_ s.length _ _ ?_) ?_
    · rintro n t g ⟨i, w, t1, t2, t4, t5, t6, hi, ac, av, ad, go, x⟩
      refine Tells.prot fun Q2 hQ2 => ?_
      have os := o.ext x
      have hln := os.1.len
      unfold L_precentorref9_Clock_Take_2
      simp [t6, t2, ac.1, os.1.len]
      refine Tells.cb (fun hc => ?_) (fun hc => ?_)
      · simp at hc
        obtain ⟨⟨q, m⟩, hdi⟩ : ∃ d, s[i]? = some d := ⟨_, List.getElem?_eq_getElem hc⟩
        have hm := hs (q, m) (List.mem_of_getElem? hdi)
        simp only at hm
        obtain ⟨b', pp', B', k1, k2, k3⟩ := os.2.atI (show (s.map (·.2))[i]? = some m by simp [hdi])
        have wi : IntKind.i64.wrap ((i : Int) + 1) = i + 1 := wrap_id (by omega) (by omega)
        simp [J_precentorref9_Clock_Take_3, t2, ac.1, t6, k1, k2, k3]
        refine Tells.bind (takeInner (bc := bc) (i := i) (u := u) (q := q) (m := m) (by simp [t1]) (by simp [t2]) (by simp [t6]) (by simp) (by simp) ac os hdi (by omega) (ou.ext x) (by omega)) ?_
        rintro ⟨ex, t'⟩ g' ⟨rfl, rfl, e7, e1, e2, e4, e5, e6⟩
        simp only at e7 e1 e2 e4 e5 e6
        simp [t4] at e4
        simp [t5] at e5
        have hmr : many l q = if l.any (fun x => x.1 == q) = true then 1 else 0 := many_rise (due_rise hd)
        rw [← hmr] at e7
        simp [J_precentorref9_Clock_Take_5, e5, ad.1, e7]
        refine Tells.app1 go (by rfl) (by rfl) (show intR.rep g' [I (m + many l q)] (m + many l q) from rfl) (by rfl) (by rfl) (by simp [take_length]; omega) (by decide) x.next fun s6 h6 g6 x6 y6 z6 => ?_
        have xg6 : Ext [] h h6 := y6 [] x
        have ad6 := ad.ext x6 (go.1.ob ad)
        have ac6 := ac.ext x6 (go.1.ob ac)
        have av6 := av.ext x6 (go.1.ob av)
        try simp [e5]
        refine Tells.st1 ad6 g6.1.cells g6.1.one (by simp) fun h7 o7 x7 => ?_
        simp [J_precentorref9_Clock_Take_4, e6, wi]
        have htk : ((take s l).map (·.2)).take (i + 1) = ((take s l).map (·.2)).take i ++ [m + many l q] := by
          rw [List.take_add_one, hts]; simp [hdi]
        refine Tells.ok (hQ2 _ _ (.inl ⟨rfl, n - 1, by omega, i + 1, s6, by simp [e1], by simp [e2], by simp [e4], by simp [e5], by simp, by omega, ac6.ext x7 (by simpa using hcd), av6.ext x7 (by simpa using hvd), by simpa [splice] using o7, ?_, xg6.then x7 (by simp; omega)⟩))
        rw [htk]
        exact g6.ext x7 (fun b hb q => by simp at q; subst q; exact g6.1.ob ad6 hb)
      · simp at hc
        rw [List.take_of_length_le (by simp [take_length]; omega)] at go
        exact Tells.ok (hQ2 _ _ (.inr ⟨by simp, rfl, w, by simp [t4], by simp [t5], av, ad, go.1, x⟩))
    · exact ⟨0, .nils, by simp, by simp, by simp, by simp, by simp, by omega, oc5, ov5, od5, by simpa using Gl.nil, x15⟩
    · rintro ⟨ex, t⟩ g ⟨rfl, w, t4, t5, av, ad, sl, x⟩
      simp only at t4 t5
      simp [J_precentorref9_Clock_Take_1, t5, ad.1, t4]
      refine Tells.stN av (by rfl) (by rfl) (by simp [o.1.one, sl.one]) (by rfl) fun h9 o9 x9 => ?_
      simp [t4, C_precentorref9_Clock_Take_0, o9.1]
      refine Tells.ok (hQ _ _ ⟨pv, w, rfl, ⟨?_, sl.ext x9⟩, x.then x9 (by simp; omega)⟩)
      rw [take_places]
      exact (o.1.ext x).ext x9

end
end Go.Proofs.Ytbpbdigehfkjjaa

/-! The document's own clock: what Put and NewClock tell. -/
namespace Go.Proofs.Ytbpbdigehfkjjaa
open Go.Ab

section
variable {X : XTab}

theorem tw_at {xs : List Int} {i : Nat} {x : Int} (h : xs[i]? = some x) (f : Int → Bool) : (xs.drop i).takeWhile f = if f x = true then x :: (xs.drop (i + 1)).takeWhile f else [] := by
  have hlt := (List.getElem?_eq_some_iff.1 h).1
  rw [List.drop_eq_getElem_cons hlt, (List.getElem?_eq_some_iff.1 h).2, List.takeWhile_cons]

theorem ref_Put (hX : OnlyKnown X) {h : Heap} {v : AVal} {xs : List Int} (o : Sl intR h v xs) (hl : xs.length < 2 ^ 30) (p : Int) :
    Tells (fun q => acallX Try.prog X q F_precentorref9_Put [v, I p] h) fun a h' => Sl intR h' a (putL xs p) ∧ Ext [] h h' := by
  refine R_precentorref9_Put _ _ (hX _ _ rfl) ?_
  refine Tells.prot fun Q' hQ => ?_
  unfold S_precentorref9_Put
  simp
  refine Tells.bind (ref_In hX o (by omega) p) ?_
  rintro _ h ⟨rfl, rfl⟩
  cases hin : xs.any (· == p) with
  | true =>
    simp
    refine Tells.ok (hQ _ _ ⟨?_, .refl⟩)
    unfold putL
    rw [if_pos hin]
    exact o
  | false =>
    have hp : putL xs p = xs.takeWhile (fun x => decide (x < p)) ++ [p] ++ xs.filter (fun x => decide (p < x)) := by
      unfold putL
      rw [if_neg (by rw [hin]; simp)]
    simp [J_precentorref9_Put_0]
    refine Tells.bind (Tells.loop (fun n t g => ∃ i : Nat, t 0 = v ∧ t 1 = I p ∧ t 6 = I i ∧ i + n = xs.length ∧ Gl intR h g (t 5) (xs.take i) ∧ Ext [] h g ∧ xs.takeWhile (fun x => decide (x < p)) = xs.take i ++ (xs.drop i).takeWhile (fun x => decide (x < p)))
      (Q := fun r g => r.1 = .exit 0 ∧ r.2 0 = v ∧ r.2 1 = I p ∧ Gl intR h g (r.2 5) (xs.takeWhile (fun x => decide (x < p))) ∧ Ext [] h g) ?_ xs.length _ _ ?_) ?_
    · rintro n t g ⟨i, t0, t1, t6, hi, go, x, htw⟩
      refine Tells.prot fun Q2 hQ2 => ?_
      have og := o.ext x
      unfold L_precentorref9_Put_6
      simp [t6, t0, og.len]
      by_cases hc : i < xs.length
      · obtain ⟨y, hdi⟩ : ∃ d, xs[i]? = some d := ⟨_, List.getElem?_eq_getElem hc⟩
        obtain ⟨b, pp, B, q1, q2, q3⟩ := og.atI hdi
        have w : IntKind.i64.wrap ((i : Int) + 1) = i + 1 := wrap_id (by omega) (by omega)
        rw [tw_at hdi] at htw
        by_cases hy : y < p
        · rw [if_pos (by simpa using hy)] at htw
          simp [hc, t0, t6, q1, q2, q3, t1, hy, J_precentorref9_Put_7]
          refine Tells.app1 go (by rfl) (by rfl) (show intR.rep g [I y] y from rfl) (by rfl) (by rfl) (by simp; omega) (by decide) x.next fun s6 h6 g6 x6 y6 z6 => ?_
          simp [J_precentorref9_Put_8, t6, w]
          have htk : xs.take (i + 1) = xs.take i ++ [y] := by rw [List.take_add_one, hdi]; rfl
          exact Tells.ok (hQ2 _ _ (.inl ⟨rfl, n - 1, by omega, i + 1, by simp [t0], by simp [t1], by simp, by omega, by rw [htk]; simpa using g6, y6 [] x, by rw [htw, htk]; simp⟩))
        · rw [if_neg (by simpa using hy)] at htw
          simp [hc, t0, t6, q1, q2, q3, t1, hy]
          exact Tells.ok (hQ2 _ _ (.inr ⟨by simp, rfl, by simp [t0], by simp [t1], by rw [htw]; simpa using go, x⟩))
      · simp [hc]
        rw [List.drop_eq_nil_of_le (by omega)] at htw
        exact Tells.ok (hQ2 _ _ (.inr ⟨by simp, rfl, by simp [t0], by simp [t1], by rw [htw]; simpa using go, x⟩))
    · exact ⟨0, by simp, by simp, by simp, by omega, by simpa using Gl.nil, .refl, by simp⟩
    · rintro ⟨ex, t⟩ g ⟨rfl, t0, t1, go, x⟩
      simp only at t0 t1 go
      have hle : (xs.takeWhile (fun x => decide (x < p))).length ≤ xs.length := (List.takeWhile_prefix _).length_le
      generalize xs.takeWhile (fun x => decide (x < p)) = ys at go hp hle
      simp [J_precentorref9_Put_1, t1]
      refine Tells.app1 go (by rfl) (by rfl) (show intR.rep g [I p] p from rfl) (by rfl) (by rfl) (by omega) (by decide) x.next fun s6 h6 g6 x6 y6 z6 => ?_
      have xg6 := y6 [] x
      try simp
      refine Tells.bind (Tells.loop (fun n t g => ∃ i : Nat, t 0 = v ∧ t 1 = I p ∧ t 7 = I i ∧ i + n = xs.length ∧ Gl intR h g (t 5) (ys ++ [p] ++ (xs.take i).filter (fun x => decide (p < x))) ∧ Ext [] h g)
        (Q := fun r g => r.1 = .exit 2 ∧ Gl intR h g (r.2 5) (ys ++ [p] ++ xs.filter (fun x => decide (p < x))) ∧ Ext [] h g) ?_ xs.length _ _ ?_) ?_
      · rintro n t g ⟨i, t0, t1, t7, hi, go, x⟩
        refine Tells.prot fun Q2 hQ2 => ?_
        have og := o.ext x
        unfold L_precentorref9_Put_3
        simp [t7, t0, og.len]
        refine Tells.cb (fun hc => ?_) (fun hc => ?_)
        · simp at hc
          obtain ⟨y, hdi⟩ : ∃ d, xs[i]? = some d := ⟨_, List.getElem?_eq_getElem hc⟩
          obtain ⟨b, pp, B, q1, q2, q3⟩ := og.atI hdi
          have w : IntKind.i64.wrap ((i : Int) + 1) = i + 1 := wrap_id (by omega) (by omega)
          have hfl : ((xs.take i).filter (fun x => decide (p < x))).length ≤ i := Nat.le_trans (List.length_filter_le _ _) (by simp; omega)
          have htk : (xs.take (i + 1)).filter (fun x => decide (p < x)) = (xs.take i).filter (fun x => decide (p < x)) ++ if p < y then [y] else [] := by
            rw [List.take_add_one, hdi]; simp [List.filter_append, List.filter_cons]
          by_cases hy : p < y
          · rw [if_pos hy] at htk
            simp [J_precentorref9_Put_4, t0, t7, q1, q2, q3, t1, hy]
            refine Tells.app1 go (by rfl) (by rfl) (show intR.rep g [I y] y from rfl) (by rfl) (by rfl) (by simp only [List.length_append, List.length_singleton]; omega) (by decide) x.next fun s8 h8 g8 x8 y8 z8 => ?_
            simp [J_precentorref9_Put_5, t7, w]
            exact Tells.ok (hQ2 _ _ (.inl ⟨rfl, n - 1, by omega, i + 1, by simp [t0], by simp [t1], by simp, by omega, by rw [htk]; simpa using g8, y8 [] x⟩))
          · rw [if_neg hy] at htk
            simp [J_precentorref9_Put_4, t0, t7, q1, q2, q3, t1, hy, J_precentorref9_Put_5, w]
            exact Tells.ok (hQ2 _ _ (.inl ⟨rfl, n - 1, by omega, i + 1, by simp [t0], by simp [t1], by simp, by omega, by rw [htk]; simpa using go, x⟩))
        · simp at hc
          rw [List.take_of_length_le (by omega)] at go
          exact Tells.ok (hQ2 _ _ (.inr ⟨by simp, rfl, by simpa using go, x⟩))
      · exact ⟨0, by simp [t0], by simp [t1], by simp, by omega, by simpa using g6, xg6⟩
      · rintro ⟨ex, t⟩ g ⟨rfl, go, x⟩
        simp only at go
        simp [J_precentorref9_Put_2]
        exact Tells.ok (hQ _ _ ⟨by rw [hp]; exact go.1, x⟩)

theorem Fresh.nums {s : Slots} (f : Fresh s) : s.map (·.2) = List.replicate s.length 1 := by
  rw [List.eq_replicate_iff]
  refine ⟨by simp, fun x hx => ?_⟩
  obtain ⟨y, hy, rfl⟩ := List.mem_map.1 hx
  exact f.one y hy

theorem ref_New (hX : OnlyKnown X) {h : Heap} {u : AVal} {ps : List Int} (ou : Sl intR h u ps) (hl : ps.length < 2 ^ 29) :
    Tells (fun q => acallX Try.prog X q F_precentorref9_NewClock [u] h) fun a h' => ∃ pv nv, a = .agg [pv, nv] ∧ Two h' pv nv (newS ps) ∧ Ext [] h h' := by
  refine R_precentorref9_NewClock _ (hX _ _ rfl) ?_
  refine Tells.prot fun Q' hQ => ?_
  unfold S_precentorref9_NewClock
  simp
  refine Tells.new fun h1 bv ov x1 l1 => ?_
  simp [bldR, fillR, splice]
  refine Tells.new fun h2 bc oc x2 l2 => ?_
  have n1 := x1.next
  have n2 := x2.next
  try simp
  refine Tells.stN oc (by rfl) (by rfl) (by rfl) (by rfl) fun h3 oc3 x3 => ?_
  have hvc : bv ≠ bc := by have := ov.lt; omega
  have x13 : Ext [] h h3 := (x1.trans x2).then x3 (by simp; omega)
  have ov3 := (ov.e x2).ext x3 (by simpa using hvc)
  try simp
  refine Tells.bind (Tells.loop (fun n t g => ∃ (i : Nat) (w : AVal), t 0 = u ∧ t 2 = .ptr bv 0 ∧ t 3 = .ptr bc 0 ∧ t 4 = I i ∧ i + n = ps.length ∧ Ob g bv [.nils, .nils] ∧ Ob g bc [w, .nils] ∧ Sl intR g w ((newS (ps.take i)).map (·.1)) ∧ Ext [] h g)
    (Q := fun p g => p.1 = .exit 0 ∧ ∃ w, p.2 2 = .ptr bv 0 ∧ p.2 3 = .ptr bc 0 ∧ Ob g bv [.nils, .nils] ∧ Ob g bc [w, .nils] ∧ Sl intR g w ((newS ps).map (·.1)) ∧ Ext [] h g) ?_ ps.length _ _ ?_) ?_
  · rintro n t g ⟨i, w, t0, t2, t3, t4, hi, av, ac, sl, x⟩
    refine Tells.prot fun Q2 hQ2 => ?_
    have og := ou.ext x
    unfold L_precentorref9_NewClock_5
    simp [t4, t0, og.len]
    refine Tells.cb (fun hc => ?_) (fun hc => ?_)
    · simp at hc
      obtain ⟨p, hdi⟩ : ∃ d, ps[i]? = some d := ⟨_, List.getElem?_eq_getElem hc⟩
      obtain ⟨b, pp, B, q1, q2, q3⟩ := og.atI hdi
      have wi : IntKind.i64.wrap ((i : Int) + 1) = i + 1 := wrap_id (by omega) (by omega)
      have hS := newS_succ hdi
      have lt1 := newS_length (ps.take i)
      have lt2 : (ps.take i).length ≤ i := by simp; omega
      by_cases hp : 0 ≤ p
      · simp [J_precentorref9_NewClock_6, t0, t4, q1, q2, q3, hp, t3, ac.1]
        refine Tells.cbE (ref_Put hX sl (by simp; omega) p) ?_
        rintro w6 h6 ⟨s6, x6⟩
        have ac6 := ac.e x6
        try simp [t3]
        refine Tells.st1E ac6 s6.cells s6.one (by simp) fun h7 o7 x7 => ?_
        simp [J_precentorref9_NewClock_7, t4, wi]
        refine Tells.ok (hQ2 _ _ (.inl ⟨rfl, n - 1, by omega, i + 1, w6, by simp [t0], by simp [t2], by simp [t3], by simp, by omega, (av.e x6).ext x7 (by simpa using hvc), by simpa [splice] using o7, ?_, (x.trans x6).then x7 (by simp; omega)⟩))
        rw [hS, ins_eq (by omega), ← putL_ins (newS_fresh _).up]
        exact s6.ext x7
      · simp [J_precentorref9_NewClock_6, t0, t4, q1, q2, q3, hp, J_precentorref9_NewClock_7, wi]
        refine Tells.ok (hQ2 _ _ (.inl ⟨rfl, n - 1, by omega, i + 1, w, by simp [t0], by simp [t2], by simp [t3], by simp, by omega, av, ac, ?_, x⟩))
        have : ins (newS (ps.take i)) p = newS (ps.take i) := by unfold ins; rw [if_pos (.inl (by omega))]
        rw [hS, this]
        exact sl
    · simp at hc
      rw [List.take_of_length_le (by omega)] at sl
      exact Tells.ok (hQ2 _ _ (.inr ⟨by simp, rfl, w, by simp [t2], by simp [t3], av, ac, sl, x⟩))
  · exact ⟨0, .nils, by simp, by simp, by simp, by simp, by omega, ov3, oc3, by simpa [newS] using Sl.nil, x13⟩
  · rintro ⟨ex, t⟩ g ⟨rfl, w, t2, t3, av, ac, sl, x⟩
    simp only at t2 t3
    have fr := newS_fresh ps
    have ln := newS_length ps
    generalize newS ps = s at sl fr ln hQ
    simp [J_precentorref9_NewClock_0]
    refine Tells.bind (Tells.loop (fun n t g => ∃ (i : Nat) (z : AVal), t 2 = .ptr bv 0 ∧ t 3 = .ptr bc 0 ∧ t 5 = I i ∧ i + n = s.length ∧ Ob g bv [.nils, .nils] ∧ Ob g bc [w, z] ∧ Gl intR h g z (List.replicate i 1) ∧ Ext [] h g ∧ Sl intR g w (s.map (·.1)))
      (Q := fun p g => p.1 = .exit 2 ∧ ∃ z, p.2 2 = .ptr bv 0 ∧ p.2 3 = .ptr bc 0 ∧ Ob g bv [.nils, .nils] ∧ Ob g bc [w, z] ∧ Sl intR g z (List.replicate s.length 1) ∧ Ext [] h g ∧ Sl intR g w (s.map (·.1))) ?_ s.length _ _ ?_) ?_
    · rintro n t g ⟨i, z, t2, t3, t5, hi, av, ac, go, x, sw⟩
      refine Tells.prot fun Q2 hQ2 => ?_
      have wi : IntKind.i64.wrap ((i : Int) + 1) = i + 1 := wrap_id (by omega) (by omega)
      unfold L_precentorref9_NewClock_2
      simp [t5, t3, ac.1, sw.len]
      refine Tells.cb (fun hc => ?_) (fun hc => ?_)
      · simp at hc
        simp [J_precentorref9_NewClock_3, t3, ac.1]
        refine Tells.app1 go (by rfl) (by rfl) (show intR.rep g [I 1] 1 from rfl) (by rfl) (by rfl) (by simp; omega) (by decide) x.next fun s6 h6 g6 x6 y6 z6 => ?_
        have xg6 : Ext [] h h6 := y6 [] x
        have ac6 := ac.ext x6 (go.1.ob ac)
        have av6 := av.ext x6 (go.1.ob av)
        try simp [t3]
        refine Tells.st1 ac6 g6.1.cells g6.1.one (by simp) fun h7 o7 x7 => ?_
        simp [J_precentorref9_NewClock_4, t5, wi]
        refine Tells.ok (hQ2 _ _ (.inl ⟨rfl, n - 1, by omega, i + 1, s6, by simp [t2], by simp [t3], by simp, by omega, av6.ext x7 (by simpa using hvc), by simpa [splice] using o7, ?_, xg6.then x7 (by simp; omega), (sw.ext x6).ext x7⟩))
        rw [List.replicate_succ']
        exact g6.ext x7 (fun b hb q => by simp at q; subst q; exact g6.1.ob ac6 hb)
      · simp at hc
        have : i = s.length := by omega
        subst this
        exact Tells.ok (hQ2 _ _ (.inr ⟨by simp, rfl, z, by simp [t2], by simp [t3], av, ac, go.1, x, sw⟩))
    · exact ⟨0, .nils, by simp [t2], by simp [t3], by simp, by omega, av, ac, by simpa using Gl.nil, x, sl⟩
    · rintro ⟨ex, t⟩ g ⟨rfl, z, t2, t3, av, ac, sz, x, sw⟩
      simp only at t2 t3
      simp [J_precentorref9_NewClock_1, t3, ac.1, t2]
      refine Tells.stN av (by rfl) (by rfl) (by simp [sw.one, sz.one]) (by rfl) fun h9 o9 x9 => ?_
      simp [t2, C_precentorref9_NewClock_0, o9.1]
      exact Tells.ok (hQ _ _ ⟨w, z, rfl, ⟨sw.ext x9, by rw [fr.nums]; exact sz.ext x9⟩, x.then x9 (by simp; omega)⟩)

end
end Go.Proofs.Ytbpbdigehfkjjaa

/-! What the functions of the document's own hold tell. -/
namespace Go.Proofs.Ytbpbdigehfkjjaa
open Go.Ab

/-- The document's hold. -/
structure Rh (h : Heap) (b : Nat) (most : Int) (s : Slots) (es : List Ev) (vl pv nv : AVal) : Prop where
  ob : Ob h b [I most, vl, pv, nv]
  sl : Two h pv nv s
  ev : Sl (evR 0) h vl es
theorem Rh.ext {S : List Nat} {h h' : Heap} {b : Nat} {most : Int} {s : Slots} {es : List Ev} {vl pv nv : AVal} (o : Rh h b most s es vl pv nv) (x : Ext S h h') (hb : b ∉ S) : Rh h' b most s es vl pv nv :=
  ⟨o.ob.ext x hb, o.sl.ext x, o.ev.ext x⟩
def max0 (n : Int) : Int := if 0 < n then n else 0
theorem putE_max0 (n : Int) (es : List Ev) (x : Ev) : putE (max0 n) es x = putE n es x := by
  unfold putE max0
  split
  · rfl
  · by_cases q : 0 < n
    · rw [if_pos q]
    · rw [if_neg q, if_pos (by omega), if_pos (by omega)]

section
variable {X : XTab}
theorem rhold_New (hX : OnlyKnown X) {h : Heap} {u : AVal} {ps : List Int} (most : Int) (ou : Sl intR h u ps) (hl : ps.length < 2 ^ 29) :
    Tells (fun q => acallX Try.prog X q F_precentorref14_NewHold [I most, u] h) fun a h' => ∃ b pv nv, a = .ptr b 0 ∧ Rh h' b (max0 most) (newS ps) [] .nils pv nv ∧ Ext [] h h' ∧ h.next ≤ b := by
  refine R_precentorref14_NewHold _ _ (hX _ _ rfl) ?_
  refine Tells.prot fun Q' hQ => ?_
  unfold S_precentorref14_NewHold
  try simp
  refine Tells.bind (ref_New hX ou hl) ?_
  rintro _ h1 ⟨pv, nv, rfl, two, x1⟩
  simp [bldR, fillR, splice, two.1.known, two.1.cells, two.2.known, two.2.cells]
  refine Tells.box rfl rfl fun h2 b ob x2 l2 => ?_
  try simp
  exact Tells.ok (hQ _ _ ⟨b, pv, nv, rfl, ⟨ob, two.ext x2, Sl.nil⟩, x1.trans x2, Nat.le_trans x1.next l2⟩)

theorem rhold_Put (hX : OnlyKnown X) {b : Nat} {most : Int} {s : Slots} {es : List Ev} {vl pv nv : AVal} {h : Heap} (o : Rh h b most s es vl pv nv) (hes : es.length < 2 ^ 30)
    {x : Ev} {va vs : AVal} (oa : Sl attrR h va x.ats) (os : Sl pairR h vs x.sts) (ua : UpK 0 h va) (us : UpK 0 h vs) :
    Tells (fun q => acallX Try.prog X q F_precentorref14_Hold_Put [.ptr b 0, .agg (evC x va vs)] h) fun a h' => a = I (putE most es x).1 ∧ (∃ vl', Rh h' b most s (putE most es x).2 vl' pv nv) ∧ Ext [b] h h' := by
  refine R_precentorref14_Hold_Put _ _ (hX _ _ rfl) ?_
  refine Tells.prot fun Q' hQ => ?_
  unfold S_precentorref14_Hold_Put
  try simp
  refine Tells.box (cs := evC x va vs) (by simp [evC, AVal.known, oa.known, os.known]) (by simp [evC, AVal.cells]) fun h1 be oe x1 l1 => ?_
  have o1 := o.ext x1 (by simp)
  try simp
  refine Tells.bind (Tells.loop (fun n t g => ∃ i : Nat, t 0 = .ptr b 0 ∧ t 3 = .ptr be 0 ∧ t 5 = I i ∧ i + n = es.length ∧ g = h1 ∧ heldE es x = heldE (es.drop i) x)
    (Q := fun p g => g = h1 ∧ ((p.1 = .exit 0 ∧ p.2 0 = .ptr b 0 ∧ p.2 3 = .ptr be 0 ∧ heldE es x = false) ∨ (p.1 = .ret ∧ p.2 4 = I 5 ∧ heldE es x = true))) ?_ es.length _ _ ?_) ?_
  · rintro n t g ⟨i, t0, t3, t5, hi, rfl, hh⟩
    refine Tells.prot fun Q2 hQ2 => ?_
    unfold L_precentorref14_Hold_Put_2
    simp [t0, t5, o1.ob.1, o1.ev.len]
    refine Tells.cb (fun hc => ?_) (fun hc => ?_)
    · simp at hc
      obtain ⟨y, hy⟩ : ∃ y, es[i]? = some y := ⟨_, List.getElem?_eq_getElem hc⟩
      obtain ⟨b1, p1, B1, va1, vs1, q1, q2, q3, q4, oa1, os1, ua1, us1, q5, q6, q7, q8⟩ := ev_at o1.ev hy
      have w : IntKind.i64.wrap ((i : Int) + 1) = i + 1 := wrap_id (by omega) (by omega)
      rw [heldE_drop hy] at hh
      by_cases c1 : y.c = x.c
      · have c1' : (y.c == x.c) = true := by simp [c1]
        by_cases c2 : y.s = x.s
        · have c2' : (y.s == x.s) = true := by simp [c2]
          simp [J_precentorref14_Hold_Put_3, t0, t3, t5, o1.ob.1, oe.1, q1, q2, q5, q6, evC, c1, c2]
          exact Tells.ok (hQ2 _ _ (.inr ⟨by simp, rfl, .inr ⟨rfl, by simp, by rw [hh, c1', c2']; rfl⟩⟩))
        · have c2' : (y.s == x.s) = false := beq_eq_false_iff_ne.2 c2
          simp [J_precentorref14_Hold_Put_3, t0, t3, t5, o1.ob.1, oe.1, q1, q2, q5, q6, evC, c1, c2', J_precentorref14_Hold_Put_4, w]
          exact Tells.ok (hQ2 _ _ (.inl ⟨rfl, n - 1, by omega, i + 1, by simp [t0], by simp [t3], by simp, by omega, rfl, by rw [hh, c1', c2']; rfl⟩))
      · have c1' : (y.c == x.c) = false := beq_eq_false_iff_ne.2 c1
        simp [J_precentorref14_Hold_Put_3, t0, t3, t5, o1.ob.1, oe.1, q1, q2, q5, q6, evC, c1', J_precentorref14_Hold_Put_4, w]
        exact Tells.ok (hQ2 _ _ (.inl ⟨rfl, n - 1, by omega, i + 1, by simp [t0], by simp [t3], by simp, by omega, rfl, by rw [hh, c1']; rfl⟩))
    · simp at hc
      exact Tells.ok (hQ2 _ _ (.inr ⟨by simp, rfl, .inl ⟨rfl, by simp [t0], by simp [t3], by rw [hh, List.drop_eq_nil_of_le (by omega)]; rfl⟩⟩))
  · exact ⟨0, by simp, by simp, by simp, by omega, rfl, rfl⟩
  · rintro ⟨ex, t⟩ g ⟨rfl, ⟨rfl, t0, t3, hh⟩ | ⟨rfl, t4, hh⟩⟩
    · simp only at t0 t3
      simp [J_precentorref14_Hold_Put_0, t0, o1.ob.1, o1.ev.len]
      refine Tells.cb (fun hc => ?_) (fun hc => ?_)
      · simp at hc
        have e : putE most es x = (6, es) := by simp [putE, hh, hc]
        exact Tells.ok (hQ _ _ ⟨by rw [e], ⟨vl, by rw [e]; exact o1⟩, x1.of⟩)
      · simp at hc
        have e : putE most es x = (0, es ++ [x]) := by simp [putE, hh, show ¬ most ≤ (es.length : Int) by omega]
        have xl := Ext.new g false []
        obtain ⟨sl, gl⟩ := Sl.lit (r := evR 0) (h := g) (h0 := g) (n := 7) (xs := ([] : List Ev)) (css := []) (k := 0) (cells := []) rfl trivial rfl rfl
        have okl := (o1.ob.e xl).kill (id := g.next) (by rw [xl.n0]; exact n0_le g) (by have := o1.ob.lt; omega)
        have oekl := (oe.e xl).kill (id := g.next) (by rw [xl.n0]; exact n0_le g) (by have := oe.lt; omega)
        simp only [J_precentorref14_Hold_Put_1, lt_eq, t0, obv_val, bsl0, arbV_val]
        simp [okl, t0]
        refine Tells.appNE (by_ := 88) gl (o1.ev.ext xl) (by rfl) (by simp; omega) (by decide) xl.next fun v4 h4 g4 _ y4 _ => ?_
        have x4 : Ext [] g h4 := y4 _ xl
        simp only [List.nil_append] at g4
        have oek4 := (oe.e x4).kill (id := g.next) (by rw [x4.n0]; exact n0_le g) (by have := oe.lt; omega)
        simp [t3, oek4, oekl, evC]
        have x04 := x1.trans x4
        have hre : (evR 0).rep h4 (evC x va vs) x := ⟨va, vs, rfl, oa.ext x04, os.ext x04, ua.ext x04, us.ext x04⟩
        refine Tells.app1E (r := evR 0) g4 (by simp [AVal.cells, evC]) (by simp [AVal.known, evC, oa.known, os.known]) hre (by rfl) (by rfl) (by omega) (by decide) x4.next fun v5 h5 g5 _ y5 _ => ?_
        have x5 : Ext [] g h5 := y5 _ x4
        try simp [t0]
        refine Tells.st1E (o1.ob.e x5) g5.1.cells g5.1.one (by simp) fun h6 o6 x6 => ?_
        try simp
        exact Tells.ok (hQ _ _ ⟨by rw [e], ⟨v5, by rw [e]; exact ⟨o6, (o1.sl.ext x5).ext x6, g5.1.ext x6⟩⟩, (x1.of.trans x5.of).trans x6⟩)
    · simp only at t4
      simp [t4]
      have e : putE most es x = (5, es) := by simp [putE, hh]
      exact Tells.ok (hQ _ _ ⟨by rw [e], ⟨vl, by rw [e]; exact o1⟩, x1.of⟩)
end
end Go.Proofs.Ytbpbdigehfkjjaa

/-! What the document's hold tells of Next. -/
namespace Go.Proofs.Ytbpbdigehfkjjaa
open Go.Ab
section
variable {X : XTab}
theorem rhold_Next (hX : OnlyKnown X) {b : Nat} {most : Int} {s : Slots} {es : List Ev} {vl pv nv : AVal} {h : Heap} (o : Rh h b most s es vl pv nv) (us : Up s) (hes : es.length < 2 ^ 30)
    (hsl : s.length < 2 ^ 30) (hst : ∀ x, x ∈ es → x.sts.length < 2 ^ 30) (hs : Small s (2 ^ 60)) :
    Tells (fun q => acallX Try.prog X q F_precentorref14_Hold_Next [.ptr b 0] h) fun a h' => Ext [b] h h' ∧
      ((dueI s es = none ∧ a = .tup [.agg (evC ev0 .nils .nils), .bool false] ∧ Rh h' b most s es vl pv nv) ∨
       (∃ i x va vs, dueI s es = some i ∧ es[i]? = some x ∧ a = .tup [.agg (evC x va vs), .bool true] ∧ Sl attrR h' va x.ats ∧ Sl pairR h' vs x.sts ∧ ∃ vl' pv' nv', Rh h' b most (take s x.sts) (es.take i ++ es.drop (i + 1)) vl' pv' nv')) := by
  refine R_precentorref14_Hold_Next _ (hX _ _ rfl) ?_
  refine Tells.prot fun Q' hQ => ?_
  unfold S_precentorref14_Hold_Next
  try simp
  refine Tells.new fun h1 b2 o2 x1 l1 => ?_
  have hb2 : b ≠ b2 := by have := o.ob.lt; omega
  try simp
  refine Tells.bind (Tells.loop (fun n t g => ∃ i : Nat, t 0 = .ptr b 0 ∧ t 2 = .ptr b2 0 ∧ t 4 = I i ∧ i + n = es.length ∧ Ob g b2 (evC ev0 .nils .nils) ∧ Ext [] h g ∧ h.next ≤ b2 ∧ dueI s es = (dueI s (es.drop i)).map (· + i))
    (Q := fun p g => p.2 2 = .ptr b2 0 ∧ ((p.1 = .exit 0 ∧ Ext [] h g ∧ h.next ≤ b2 ∧ dueI s es = none ∧ Ob g b2 (evC ev0 .nils .nils)) ∨ (p.1 = .ret ∧ p.2 3 = .bool true ∧ Ext [b] h g ∧
      ∃ i x va vs, dueI s es = some i ∧ es[i]? = some x ∧ Ob g b2 (evC x va vs) ∧ Sl attrR g va x.ats ∧ Sl pairR g vs x.sts ∧ ∃ vl' pv' nv', Rh g b most (take s x.sts) (es.take i ++ es.drop (i + 1)) vl' pv' nv'))) ?_ es.length _ _ ?_) ?_
  · rintro n t g ⟨i, t0, t2, t4, hi, o2, xg, l2, hd⟩
    refine Tells.prot fun Q2 hQ2 => ?_
    have ob := o.ext xg (by simp)
    unfold L_precentorref14_Hold_Next_1
    simp [t0, t4, ob.ob.1, ob.ev.len]
    refine Tells.cb (fun hc => ?_) (fun hc => ?_)
    · simp at hc
      obtain ⟨y, hy⟩ : ∃ y, es[i]? = some y := ⟨_, List.getElem?_eq_getElem hc⟩
      have hm := List.mem_of_getElem? hy
      obtain ⟨b1, p1, B1, va1, vs1, q1, q2, q3, q4, oa1, os1, ua1, us1, q5, q6, q7, q8⟩ := ev_at ob.ev hy
      have w : IntKind.i64.wrap ((i : Int) + 1) = i + 1 := wrap_id (by omega) (by omega)
      rw [dueI_drop hy] at hd
      simp [J_precentorref14_Hold_Next_2, t0, t4, ob.ob.1, q1, q2, q8]
      refine Tells.cbE (ref_Due hX ob.sl (by omega) os1 (by have := hst y hm; omega)) ?_
      rintro _ g2 ⟨rfl, xd⟩
      have x2 := xg.trans xd
      have o22 := o2.e xd
      cases c : due s y.sts with
      | false =>
        rw [c] at hd
        simp [J_precentorref14_Hold_Next_3, t4, w]
        refine Tells.ok (hQ2 _ _ (.inl ⟨rfl, n - 1, by omega, i + 1, by simp [t0], by simp [t2], by simp, by omega, o22, x2, l2, ?_⟩))
        rw [hd]
        simp only [Bool.false_eq_true, if_false, Option.map_map]
        congr 1
        funext z
        simp
        omega
      | true =>
        rw [c] at hd
        have hd : dueI s es = some i := by rw [hd]; simp
        have ob2 := o.ext x2 (by simp)
        obtain ⟨b3, p3, B3, va3, vs3, r1, r2, r3, r4, oa3, os3, ua3, us3, -⟩ := ev_at ob2.ev hy
        simp [t0, t4, ob2.ob.1, r1, r2, r3, r4]
        refine Tells.newSt (ds := evC y va3 vs3) (by rfl) (by rfl) (by rfl) (by simp [evC, oa3.one, os3.one]) fun g3 bn on xn ln => ?_
        have x3 := x2.trans xn
        have ob3 := o.ext x3 (by simp)
        have o23 := o22.e xn
        have hbn : bn ≠ b := by have := ob2.ob.lt; omega
        have hn2 : bn ≠ b2 := by have := o22.lt; omega
        simp [t0, ob3.ob.1, on.1, evC]
        refine Tells.cbE (ref_Take hX ob3.sl us hsl (os3.ext xn) (hst y hm) ⟨by decide, by decide⟩ hs) ?_
        rintro _ g4 ⟨pv', nv', rfl, two4, xt⟩
        have x4 := x3.trans xt
        have ob4 := o.ext x4 (by simp)
        have on4 := on.e xt
        have o24 := o23.e xt
        try simp
        refine Tells.stE ob4.ob (n := 2) (by rfl) (by simp [AVal.cells, two4.1.one, two4.2.one]) (by simp) fun g5 ob5 x5 => ?_
        have ob5 : Ob g5 b [I most, vl, pv', nv'] := ob5
        have on5 := on4.ext x5 (by simpa using hbn)
        have o25 := o24.ext x5 (by simpa using hb2.symm)
        have X5 : Ext [b] h g5 := x4.of.trans x5
        have ev5 := o.ev.ext X5
        have xl := Ext.new g5 false []
        obtain ⟨sl, gl⟩ := Sl.lit (r := evR 0) (h := g5) (h0 := g5) (n := 7) (xs := ([] : List Ev)) (css := []) (k := 0) (cells := []) rfl trivial rfl rfl
        have okl := (ob5.e xl).kill (id := g5.next) (by rw [xl.n0]; exact n0_le g5) (by have := ob5.lt; omega)
        obtain ⟨u1, c1, s1, b1'⟩ := (ev5.ext xl).takeR (n := 7) rfl (hi := i) (by omega)
        simp only [t0, obv_val, bsl0, arbV_val]
        simp [okl, t4, c1]
        refine Tells.appNE gl s1 (by rfl) (by simp; omega) (by decide) xl.next fun v6 g6 gl6 _ y6 _ => ?_
        have x6 : Ext [] g5 g6 := y6 _ xl
        simp only [List.nil_append] at gl6
        have ob6 := ob5.e x6
        have okk := ob6.kill (id := g5.next) (by rw [x6.n0]; exact n0_le g5) (by have := ob5.lt; omega)
        obtain ⟨u2, c2, s2, b2'⟩ := (ev5.ext x6).dropR (n := 7) rfl (lo := i + 1) (by omega)
        have c2 : slcR 7 vl (some (.int .i64 ((i : Int) + 1))) none none = some u2 := c2
        simp [okk, okl, t4, t0, w, c2]
        refine Tells.appNE gl6 s2 (by rfl) (by simp; omega) (by decide) x6.next fun v7 g7 gl7 _ y7 _ => ?_
        have x7 : Ext [] g5 g7 := y7 _ x6
        have ob7 := ob5.e x7
        have on7 := on5.e x7
        have o27 := o25.e x7
        try simp [t0]
        refine Tells.st1E ob7 gl7.1.cells gl7.1.one (by simp) fun g8 ob8 x8 => ?_
        have ob8 : Ob g8 b [I most, v7, pv', nv'] := ob8
        have on8 := on7.ext x8 (by simpa using hbn)
        have o28 := o27.ext x8 (by simpa using hb2.symm)
        simp [on8.1, evC, t2]
        have oa8 := ((((oa3.ext xn).ext xt).ext x5).ext x7).ext x8
        have os8 := ((((os3.ext xn).ext xt).ext x5).ext x7).ext x8
        refine Tells.stN o28 (ds := evC y va3 vs3) (by rfl) (by rfl) (by simp [evC, oa8.one, os8.one]) (by rfl) fun g9 o29 x9 => ?_
        have X9 : Ext [b] h g9 := ((X5.trans x7.of).trans x8).then x9 fun z hz => .inr (by simp at hz; omega)
        exact Tells.ok (hQ2 _ _ (.inr ⟨by simp, by simp [t2], .inr ⟨rfl, by simp, X9, i, y, va3, vs3, hd, hy, o29, oa8.ext x9, os8.ext x9, v7, pv', nv', ⟨ob8.ext x9 (by simpa using hb2), (((two4.ext x5).ext x7).ext x8).ext x9, (gl7.1.ext x8).ext x9⟩⟩⟩))
    · simp at hc
      exact Tells.ok (hQ2 _ _ (.inr ⟨by simp, by simp [t2], .inl ⟨rfl, xg, l2, by rw [hd, List.drop_eq_nil_of_le (by omega)]; rfl, o2⟩⟩))
  · exact ⟨0, by simp, by simp, by simp, by omega, o2, x1, l1, by simp⟩
  · rintro ⟨ex, t⟩ g ⟨t2, ⟨rfl, xg, l2, hd, o2⟩ | ⟨rfl, t3, xg, i, x, va, vs, hd, hx, o2, oa, os, hd'⟩⟩
    · simp only at t2
      simp [J_precentorref14_Hold_Next_0, t2, bldR, fillR]
      refine Tells.stN o2 (ds := evC ev0 .nils .nils) (by rfl) (by rfl) (by rfl) (by rfl) fun g2 o3 x2 => ?_
      simp [t2, C_precentorref14_Hold_Next_0, o3.1, evC]
      have e2 : Ext [] h g2 := xg.then x2 fun z hz => .inr (by simp at hz; omega)
      exact Tells.ok (hQ _ _ ⟨e2.of, .inl ⟨hd, rfl, o.ext e2 (by simp)⟩⟩)
    · simp only at t2 t3
      simp [t2, t3, C_precentorref14_Hold_Next_0, o2.1, evC]
      exact Tells.ok (hQ _ _ ⟨xg, .inr ⟨i, x, va, vs, hd, hx, rfl, oa, os, hd'⟩⟩)
end
end Go.Proofs.Ytbpbdigehfkjjaa

/-! Law HoldTells: the parts of the walk. -/
namespace Go.Proofs.Ytbpbdigehfkjjaa
open Go.Ab

theorem Feed.extC {b : Nat} {h h' : Heap} {bf k : Nat} (f : Feed h bf k) (x : ExtC b h h') (hm : h.isM b = false) (hn : h.n0 ≤ b) : Feed h' bf k := by
  obtain ⟨L, a, xs, h1, h2, h3, h4, h5, h6⟩ := f
  have ap : Apart h b L := fun c hc => by
    have := h6 c hc
    refine ⟨by omega, fun r _ q => ?_⟩
    have := Heap.cls_eq q
    omega
  exact ⟨L, a, xs, h1.extC x hm, h2, h3, h4.extC (fun q => q) x ap, h5, by rw [x.n0]; exact h6⟩
theorem up_nxt : ∀ {s : Slots} {i : Nat} {p n : Int}, Up s → s[i]? = some (p, n) → nxt s p = n
  | [], _, _, _, _, h => by simp at h
  | (q, m) :: r, 0, p, n, _, h => by
    simp at h
    simp [nxt, h]
  | (q, m) :: r, i + 1, p, n, u, h => by
    unfold Up at u
    rw [List.pairwise_cons] at u
    have hm : r[i]? = some (p, n) := by simpa using h
    have : q < p := u.1 _ (List.mem_of_getElem? hm)
    simp [nxt, show ¬ q = p by omega]
    exact up_nxt u.2 hm
theorem Small.mono {s : Slots} {k m : Int} (h : Small s k) (hk : k ≤ m) : Small s m := fun x hx => by have := h x hx; omega

section
variable {X : XTab}
theorem same_Clock (hX : OnlyKnown X) {h : Heap} {b : Nat} {most : Int} {s : Slots} {es : List Ev} {cv vl pv nv : AVal} (oc : Sl pairR h cv s) (o : Rh h b most s es vl pv nv) (us : Up s) (hl : s.length < 2 ^ 30) :
    Tells (fun q => acallX Try.prog X q F_precentorlaw16_sameClock [.agg [cv], .ptr b 0] h) fun a h' => a = .bool true ∧ Ext [] h h' := by
  refine R_precentorlaw16_sameClock _ _ (hX _ _ rfl) ?_
  refine Tells.prot fun Q' hQ => ?_
  unfold S_precentorlaw16_sameClock
  try simp
  refine Tells.box (cs := [cv]) (by simp [AVal.known, oc.known]) (by rfl) fun h1 ba oa x1 l1 => ?_
  simp [oa.1]
  refine Tells.bind (clock_Own hX (oc.ext x1) hl) ?_
  rintro v h2 ⟨g2, w2, x2⟩
  have x02 := x1.trans x2
  have o2 := o.ext x02 (by simp)
  have oa2 := oa.e x2
  have oc2 := oc.ext x02
  simp [g2.1.len, o2.ob.1, o2.sl.1.len, J_precentorlaw16_sameClock_0]
  refine Tells.bind (Tells.loop (fun n t g => ∃ i : Nat, t 1 = .ptr b 0 ∧ t 2 = .ptr ba 0 ∧ t 5 = v ∧ t 6 = I i ∧ i + n = s.length ∧ Ext [] h2 g)
    (Q := fun p g => p.1 = .exit 0 ∧ Ext [] h2 g) ?_ s.length _ _ ?_) ?_
  · rintro n t g ⟨i, t1, t2, t5, t6, hi, xg⟩
    refine Tells.prot fun Q2 hQ2 => ?_
    have gg := g2.1.ext xg
    unfold L_precentorlaw16_sameClock_2
    simp [t5, t6, gg.len]
    refine Tells.cb (fun hc => ?_) (fun hc => ?_)
    · simp at hc
      obtain ⟨⟨p, n'⟩, hp⟩ : ∃ d, s[i]? = some d := ⟨_, List.getElem?_eq_getElem hc⟩
      have og := o2.ext xg (by simp)
      have oag := oa2.e xg
      obtain ⟨b1, p1, B1, q1, q2, q3⟩ := gg.atI (i := i) (x := p) (by simp [hp])
      obtain ⟨b2, p2, B2, r1, r2, r3⟩ := og.sl.1.atI (i := i) (x := p) (by simp [hp])
      have w : IntKind.i64.wrap ((i : Int) + 1) = i + 1 := wrap_id (by omega) (by omega)
      simp [J_precentorlaw16_sameClock_3, t1, t2, t5, t6, og.ob.1, oag.1, q1, q2, q3, r1, r2, r3]
      refine Tells.cbE (clock_Next hX (oc2.ext xg) (by omega) p) ?_
      rintro _ g3 ⟨rfl, x3⟩
      have og3 := og.ext x3 (by simp)
      obtain ⟨b3, p3, B3, k1, k2, k3⟩ := og.sl.2.atI (i := i) (x := n') (by simp [hp])
      obtain ⟨b4, p4, B4, m1, m2, m3⟩ := og3.sl.2.atI (i := i) (x := n') (by simp [hp])
      cases (k1.symm.trans m1)
      simp [og.ob.1, og3.ob.1, t6, k1, k2, k3, m2, m3, up_nxt us hp, J_precentorlaw16_sameClock_4, w]
      exact Tells.ok (hQ2 _ _ (.inl ⟨rfl, n - 1, by omega, i + 1, by simp [t1], by simp [t2], by simp [t5], by simp, by omega, xg.trans x3⟩))
    · exact Tells.ok (hQ2 _ _ (.inr ⟨by simp, rfl, xg⟩))
  · exact ⟨0, by simp, by simp, by simp, by simp, by omega, .refl⟩
  · rintro ⟨ex, t⟩ g ⟨rfl, xg⟩
    simp [J_precentorlaw16_sameClock_1]
    exact Tells.ok (hQ _ _ ⟨rfl, x02.trans xg⟩)
end
end Go.Proofs.Ytbpbdigehfkjjaa

/-! Law HoldTells: the walk. -/
namespace Go.Proofs.Ytbpbdigehfkjjaa
open Go.Ab

/-- The program's hold and the document's, side by side. -/
structure HInv (i : Nat) (h0 g : Heap) (bf b br : Nat) (most : Int) : Prop where
  fd : Feed g bf (64 * i)
  nx : h0.next ≤ g.next
  bb : b ≠ br
  fb : bf ≠ b
  fr : bf ≠ br
  holds : ∃ (s : Slots) (es : List Ev) (cv vw vl pv nv : AVal), Hd 0 h0 g b most s es cv vw ∧ Rh g br (max0 most) s es vl pv nv ∧ Up s ∧ Small s (1 + 4 * i) ∧ s.length ≤ 4 ∧ es.length ≤ i ∧ ∀ x, x ∈ es → x.sts.length ≤ 4 ∧ x.ats.length ≤ 5

section
variable {X : XTab}
theorem tellsSix (hX : OnlyKnown X) {Q2 : Ex × T → Heap → Prop} {i : Nat} (hi : i < 24) {t : T} {h0 g : Heap} {bf b br : Nat} {most : Int} (t7 : t 7 = .ptr bf 0) (t10 : t 10 = .ptr b 0) (t11 : t 11 = .ptr br 0) (t12 : t 12 = I i) (o : HInv (i + 1) h0 g bf b br most)
    (hQ2 : ∀ t' g', t' 7 = .ptr bf 0 → t' 10 = .ptr b 0 → t' 11 = .ptr br 0 → t' 12 = I ((i : Int) + 1) → HInv (i + 1) h0 g' bf b br most → Q2 (.normal, t') g') :
    Tells (fun m => J_precentorlaw16_HoldTells_6 Try.prog (acallX Try.prog X m) m (blkK 3 (sqK (J_precentorlaw16_HoldTells_5 Try.prog (acallX Try.prog X m) m okK) okK)) t g) Q2 := by
  obtain ⟨fd, nx, bb, fb, fr, s, es, cv, vw, vl, pv, nv, hd, rh, us, sm, ls, le, lx⟩ := o
  have w : IntKind.i64.wrap ((i : Int) + 1) = i + 1 := wrap_id (by omega) (by omega)
  unfold J_precentorlaw16_HoldTells_6
  simp [t10]
  refine Tells.cbE (hold_Len hX hd) ?_
  rintro _ g ⟨rfl, rfl⟩
  simp [t10, t11, rh.ob.1, rh.ev.len]
  refine Tells.cbE (hold_Clock hX hd) ?_
  rintro _ g1 ⟨rfl, x1⟩
  try simp [t11]
  refine Tells.cbE (same_Clock hX (hd.sl.ext x1) (rh.ext x1 (by simp)) us (by omega)) ?_
  rintro _ g2 ⟨rfl, x2⟩
  have x := x1.trans x2
  simp [J_precentorlaw16_HoldTells_5, t12, w]
  exact Tells.ok (hQ2 _ _ (by simp [t7]) (by simp [t10]) (by simp [t11]) (by simp) ⟨fd.e x, Nat.le_trans nx x.next, bb, fb, fr, s, es, cv, vw, vl, pv, nv, hd.ext x (by simp) (by simp), rh.ext x (by simp), us, sm, ls, le, lx⟩)

/-- Numbers of stamps are written in where they lie. -/
theorem tellsPokes (hX : OnlyKnown X) {hb : Heap} {t : T} {g0 : Heap} {bf be br : Nat} {x : Ev} {va vs t10 t12 : AVal} {s : Slots} {most : Int} {es : List Ev} {vl pv nv : AVal} {K : Nat} (hK : K + 8 < 2 ^ 62)
    (e7 : t 7 = .ptr bf 0) (e10 : t 10 = t10) (e11 : t 11 = .ptr br 0) (e12 : t 12 = t12) (e13 : t 13 = .ptr be 0) (e14 : t 14 = I 0)
    (rh : Rh hb br most s es vl pv nv) (ls : s.length ≤ 4) (fr : br ≠ bf) (hbe : be ≠ bf) (fm : hb.isM bf = true)
    (f : Feed g0 bf K) (E : Ext [bf] hb g0) (ob : Ob g0 be (evC x va vs)) (oa : Sl attrR g0 va x.ats) (os : Sl pairR g0 vs x.sts) (ua : UpK hb.next g0 va) (us : UpK hb.next g0 vs) {hm : Nat} (h1 : ∀ c, c ∈ va.blks → g0.root c < hm) (h2 : UpK hm g0 vs) (l4 : x.sts.length ≤ 4) :
    Tells (fun m => loopN (L_precentorlaw16_HoldTells_8 Try.prog (acallX Try.prog X m) m) m t g0) fun p g => p.1 = .exit 4 ∧ p.2 7 = .ptr bf 0 ∧ p.2 10 = t10 ∧ p.2 11 = .ptr br 0 ∧ p.2 12 = t12 ∧ p.2 13 = .ptr be 0 ∧
      ∃ l, l.length = x.sts.length ∧ Feed g bf (K + 4) ∧ Ext [bf] hb g ∧ Ob g be (evC x va vs) ∧ Sl attrR g va x.ats ∧ Sl pairR g vs l ∧ UpK hb.next g va ∧ UpK hb.next g vs ∧ g0.next ≤ g.next := by
  refine Tells.loop (fun n t' g => ∃ (i : Nat) (l : List (Int × Int)), t' 7 = .ptr bf 0 ∧ t' 10 = t10 ∧ t' 11 = .ptr br 0 ∧ t' 12 = t12 ∧ t' 13 = .ptr be 0 ∧ t' 14 = I i ∧ i + n = x.sts.length ∧ l.length = x.sts.length ∧ Feed g bf (K + i) ∧ Ext [bf] hb g ∧ Ob g be (evC x va vs) ∧ Sl attrR g va x.ats ∧ Sl pairR g vs l ∧ UpK hb.next g va ∧ UpK hb.next g vs ∧ g0.next ≤ g.next ∧ (∀ c, c ∈ va.blks → g.root c < hm) ∧ UpK hm g vs) ?_ x.sts.length _ _ ?_
  · rintro n t' g ⟨i, l, e7, e10, e11, e12, e13, e14, hi, hl, f, E, ob, oa, os, ua, us, nx, h1, h2⟩
    refine Tells.prot fun Q2 hQ2 => ?_
    unfold L_precentorlaw16_HoldTells_8
    simp [e13, e14, ob.1, evC, os.len]
    refine Tells.cb (fun hc => ?_) (fun hc => ?_)
    · simp at hc
      obtain ⟨⟨a, n'⟩, ha⟩ : ∃ d, l[i]? = some d := ⟨_, List.getElem?_eq_getElem hc⟩
      obtain ⟨b1, p1, B1, q1, q2, q3, q4, q5⟩ := pair_at os ha
      have w : IntKind.i64.wrap ((i : Int) + 1) = i + 1 := wrap_id (by omega) (by omega)
      have rg := rh.ext E (by simpa using fr)
      simp [J_precentorlaw16_HoldTells_9, e11, e13, e14, rg.ob.1, ob.1, evC, q1, q2, q4]
      refine Tells.cbE (ref_Next hX rg.sl (by omega) a) ?_
      rintro _ g1 ⟨rfl, x1⟩
      have go : ∀ (g2 : Heap) (t2 : T) (l' : List (Int × Int)), t2 7 = .ptr bf 0 → t2 10 = t10 → t2 11 = .ptr br 0 → t2 12 = t12 → t2 13 = .ptr be 0 → t2 14 = I i → l'.length = l.length → Feed g2 bf (K + i + 1) → Ext [bf] hb g2 → Ob g2 be (evC x va vs) → Sl attrR g2 va x.ats → Sl pairR g2 vs l' → UpK hb.next g2 va → UpK hb.next g2 vs → g.next ≤ g2.next → (∀ c, c ∈ va.blks → g2.root c < hm) → UpK hm g2 vs →
          Tells (fun m => J_precentorlaw16_HoldTells_10 Try.prog (acallX Try.prog X m) m okK t2 g2) Q2 := by
        intro g2 t2 l' k7 k10 k11 k12 k13 k14 hl' f E ob oa os ua us nx2 h1 h2
        simp [J_precentorlaw16_HoldTells_10, k14, w]
        exact Tells.ok (hQ2 _ _ (.inl ⟨rfl, n - 1, by omega, i + 1, l', by simp [k7], by simp [k10], by simp [k11], by simp [k12], by simp [k13], by simp, by omega, by omega, f, E, ob, oa, os, ua, us, Nat.le_trans nx nx2, h1, h2⟩))
      have f1 := f.e x1
      have ob1 := ob.e x1
      have oa1 := oa.ext x1
      have os1 := os.ext x1
      have rt1 : ∀ {S : List Nat} {g2 : Heap}, Ext S g g2 → ∀ c, c ∈ va.blks → g2.root c < hm := fun x c hc => by rw [root_ext x (ua c hc).2.2]; exact h1 c hc
      by_cases hp : 0 < nxt s a
      · simp [e7, hp]
        refine Tells.bind (Next hX 3 ⟨by decide, by decide⟩ f1 (by omega)) ?_
        rintro _ g2 ⟨r, rfl, r0, _, _, x2, f2⟩
        have ob2 := ob1.ext x2 (by simpa using hbe)
        have x12 := x1.of.trans x2
        by_cases hr : 0 < r
        · have os2 := os1.ext x2
          obtain ⟨b, p, B, c, hb1, hm1, hlt1, i1, el1, hr1, k1⟩ := pokeC (n := 2) (by rfl) pair_flat os2 (fun c hc => ((us.ext x12) c hc).2.1) ha
          have hr1 : c = [I a, I n'] := hr1
          subst hr1
          have ub := (us.ext x12) b (by rw [hb1]; simp)
          have ub2 := (h2.ext x12) b (by rw [hb1]; simp)
          obtain ⟨g3, st, xc, os3, -⟩ := k1 1 (I (nxt s a)) (a, nxt s a) (by decide) rfl rfl rfl
          have apa : Apart g2 b va := Apart.of fun c hc q => by have := rt1 x12 c hc; omega
          simp [hr, e13, e14, ob2.1, evC, i1, st]
          exact go g3 _ (l.set i (a, nxt s a)) (by simp [e7]) (by simp [e10]) (by simp [e11]) (by simp [e12]) (by simp [e13]) (by simp [e14]) (by simp) (f2.extC xc hm1 ub.2.1) ((E.trans x12).extC xc ub.1) (ob2.extC xc hm1) ((oa.ext x12).extC attr_flat xc apa) os3 ((ua.ext x12).extC xc) ((us.ext x12).extC xc) (by rw [xc.next]; exact x12.next)
            (fun c hc => by rw [root_extC xc]; exact rt1 x12 c hc) ((h2.ext x12).extC xc)
        · simp [hr]
          exact go g2 _ l (by simp [e7]) (by simp [e10]) (by simp [e11]) (by simp [e12]) (by simp [e13]) (by simp [e14]) rfl f2 (E.trans x12) ob2 (oa.ext x12) (os.ext x12) (ua.ext x12) (us.ext x12) x12.next (rt1 x12) (h2.ext x12)
      · simp [hp]
        exact go g1 _ l (by simp [e7]) (by simp [e10]) (by simp [e11]) (by simp [e12]) (by simp [e13]) (by simp [e14]) rfl (f1.mono (by omega)) (E.quiet x1) ob1 oa1 os1 (ua.ext x1) (us.ext x1) x1.next (rt1 x1) (h2.ext x1)
    · simp at hc
      exact Tells.ok (hQ2 _ _ (.inr ⟨by simp, rfl, by simp [e7], by simp [e10], by simp [e11], by simp [e12], by simp [e13], l, hl, f.mono (by omega), E, ob, oa, os, ua, us, nx⟩))
  · exact ⟨0, x.sts, e7, e10, e11, e12, e13, by simpa using e14, by omega, rfl, f, E, ob, oa, os, ua, us, Nat.le_refl _, h1, h2⟩
end
end Go.Proofs.Ytbpbdigehfkjjaa

/-! Law HoldTells: the walk, joined. -/
namespace Go.Proofs.Ytbpbdigehfkjjaa
open Go.Ab

theorem putE_len (most : Int) (es : List Ev) (x : Ev) : (putE most es x).2.length ≤ es.length + 1 := by
  unfold putE
  split
  · simp
  · split <;> simp
theorem putE_mem {most : Int} {es : List Ev} {x y : Ev} (h : y ∈ (putE most es x).2) : y ∈ es ∨ y = x := by
  unfold putE at h
  split at h
  · exact .inl h
  · split at h
    · exact .inl h
    · simpa using h
theorem mem_less {es : List Ev} {i : Nat} {y : Ev} (h : y ∈ es.take i ++ es.drop (i + 1)) : y ∈ es := by
  rcases List.mem_append.1 h with q | q
  · exact List.mem_of_mem_take q
  · exact List.mem_of_mem_drop q

section
variable {X : XTab}
theorem tellsStep (hX : OnlyKnown X) {Q2 : Ex × T → Heap → Prop} {i : Nat} (hi : i < 24) {t : T} {h0 g : Heap} {bf b br : Nat} {most : Int} (t7 : t 7 = .ptr bf 0) (t10 : t 10 = .ptr b 0) (t11 : t 11 = .ptr br 0) (t12 : t 12 = I i) (o : HInv i h0 g bf b br most)
    (hQ2 : ∀ t' g', t' 7 = .ptr bf 0 → t' 10 = .ptr b 0 → t' 11 = .ptr br 0 → t' 12 = I ((i : Int) + 1) → HInv (i + 1) h0 g' bf b br most → Q2 (.normal, t') g') :
    Tells (fun m => J_precentorlaw16_HoldTells_4 Try.prog (acallX Try.prog X m) m okK t g) Q2 := by
  obtain ⟨fd, nx, bb, fb, fr, s, es, cv, vw, vl, pv, nv, hd, rh, us, sm, ls, le, lx⟩ := o
  have sm60 : Small s (2 ^ 60) := sm.mono (by omega)
  unfold J_precentorlaw16_HoldTells_4
  simp [t7]
  refine Tells.bind (Next hX 3 ⟨by decide, by decide⟩ fd (by omega)) ?_
  rintro _ g1 ⟨r, rfl, r0, _, _, x1, f1⟩
  have hd1 := hd.ext x1 (by simpa using fb.symm) (by simpa using .inl fd.m)
  have rh1 := rh.ext x1 (by simpa using fr.symm)
  have nx1 := Nat.le_trans nx x1.next
  by_cases hr : 0 < r
  · simp [hr, t7]
    refine Tells.bind (EventH hX f1 (by omega)) ?_
    rintro _ g2 ⟨x, va, vs, rfl, fe, ga, wa, gs, ws, ⟨hm, k1, k2⟩, x2, f2⟩
    refine Tells.newSt (ds := evC x va vs) (by rfl) (by rfl) (by rfl) (by simp [evC, ga.1.one, gs.1.one]) fun g3 be oe x3 l3 => ?_
    have hbe : be ≠ bf := by have := f2.lt; omega
    simp [t7]
    refine Tells.bind (Next hX 2 ⟨by decide, by decide⟩ (f2.e x3) (by omega)) ?_
    rintro _ g4 ⟨a, rfl, a0, a1, _, x4, f4⟩
    have a1 := a1 (by decide)
    have wa1 : IntKind.i64.wrap (1 + a) = 1 + a := wrap_id (by omega) (by omega)
    simp [wa1, t7]
    refine Tells.bind (Next hX 5 ⟨by decide, by decide⟩ f4 (by omega)) ?_
    rintro _ g5 ⟨c, rfl, c0, c1, _, x5, f5⟩
    have c1 := c1 (by decide)
    have wc1 : IntKind.i64.wrap (1 + c) = 1 + c := wrap_id (by omega) (by omega)
    have oe5 := (oe.ext x4 (by simpa using hbe)).ext x5 (by simpa using hbe)
    simp [wc1]
    refine Tells.st1 oe5 (by rfl) (by rfl) (by simp [evC]) fun g6 oe6 x6 => ?_
    try simp
    refine Tells.st1 oe6 (by rfl) (by rfl) (by simp [evC]) fun g7 oe7 x7 => ?_
    have oe7 : Ob g7 be (evC ⟨1 + a, x.b, 1 + c, x.e, x.p, x.ats, x.sts⟩ va vs) := oe7
    have f7 := (f5.ext x6 (by simpa using hbe.symm)).ext x7 (by simpa using hbe.symm)
    have X27 : Ext [bf, be] g2 g7 := (((x3.of.trans (x4.mono (by simp))).trans (x5.mono (by simp))).trans (x6.mono (by simp))).trans (x7.mono (by simp))
    have n12 := x2.next
    have E : Ext [bf] g1 g7 := x2.then X27 fun z hz => by
      simp at hz
      rcases hz with rfl | rfl
      · exact .inl (by simp)
      · exact .inr (by omega)
    have va7 := ga.1.ext X27
    have vs7 := gs.1.ext X27
    have ua7 : UpK g1.next g7 va := UpK.ext (K := g1.next) wa X27
    have us7 : UpK g1.next g7 vs := UpK.ext (K := g1.next) ws X27
    try simp
    refine Tells.bind (tellsPokes hX (hb := g1) (g0 := g7) (bf := bf) (be := be) (br := br) (x := ⟨1 + a, x.b, 1 + c, x.e, x.p, x.ats, x.sts⟩) (va := va) (vs := vs) (t10 := .ptr b 0) (t12 := I i) (K := 64 * i + 1 + 31 + 1 + 1) (by omega) (by simp [t7]) (by simp [t10]) (by simp [t11]) (by simp [t12]) (by simp) (by simp) rh1 ls fr.symm hbe f1.m
      f7 E oe7 va7 vs7 ua7 us7 (hm := hm) (fun z hz => by rw [root_ext X27 (wa z hz).2.2]; exact k1 z hz) (k2.ext X27) fe.sts) ?_
    rintro ⟨ex, t'⟩ g8 ⟨rfl, e7, e10, e11, e12, e13, l, hl, f8, E8, oe8, va8, vs8, ua8, us8, n8⟩
    simp only at e7 e10 e11 e12 e13
    have hl : l.length = x.sts.length := hl
    have hd8 := hd1.ext E8 (by simpa using fb.symm) (by simpa using .inl f1.m)
    have rh8 := rh1.ext E8 (by simpa using fr.symm)
    have oe8' := oe8.1
    simp only [evC] at oe8'
    have hbeb : be ≠ b := by have := hd1.ob.lt; omega
    simp [J_precentorlaw16_HoldTells_7, e10, e13, oe8', lt_eq]
    refine Tells.cbE (hold_Put hX hd8 (Nat.zero_le _) (Nat.le_trans nx1 E8.next) (by omega) (x := ⟨1 + a, x.b, 1 + c, x.e, x.p, x.ats, l⟩) (va := va) (vs := vs) va8 vs8 (by have := fe.ats; show x.ats.length ≤ _; omega) (by have := fe.sts; show l.length ≤ _; omega)) ?_
    rintro _ g9 ⟨rfl, ⟨vw9, hd9⟩, x9, -⟩
    have oe9 := oe8.ext x9 (by simpa using ⟨hbeb, hd8.ev.1.ob oe8⟩)
    have oe9' := oe9.1
    simp only [evC] at oe9'
    have rh9 := rh8.ext x9 (by simpa using ⟨bb.symm, hd8.ev.1.ob rh8.ob⟩)
    have f9 := f8.ext x9 (by simpa using ⟨fb, f8.out hd8.ev.1⟩)
    simp [e11, e13, oe9', oe8']
    refine Tells.cbE (rhold_Put hX rh9 (by omega) (x := ⟨1 + a, x.b, 1 + c, x.e, x.p, x.ats, l⟩) (va := va) (vs := vs) (va8.ext x9) (vs8.ext x9) (fun z hz => ⟨Nat.zero_le _, ((ua8.ext x9) z hz).2⟩) (fun z hz => ⟨Nat.zero_le _, ((us8.ext x9) z hz).2⟩)) ?_
    rintro _ g10 ⟨rfl, ⟨vl10, rh10⟩, x10⟩
    rw [putE_max0] at rh10
    have hd10 := hd9.ext x10 (by simpa using bb) (by simpa using .inl rh9.ob.2.1)
    have f10 := f9.ext x10 (by simpa using fr)
    simp [putE_max0]
    refine tellsSix hX hi (by simp [e7]) (by simp [e10]) (by simp [e11]) (by simp [e12]) ⟨f10.mono (by omega), Nat.le_trans nx1 (Nat.le_trans E8.next (Nat.le_trans x9.next x10.next)), bb, fb, fr, s, _, cv, vw9, vl10, pv, nv, hd10, rh10, us, sm.mono (by omega), ls, Nat.le_trans (putE_len _ _ _) (by omega), fun y hy => ?_⟩ hQ2
    rcases putE_mem hy with q | q
    · exact lx y q
    · subst q
      exact ⟨by have := fe.sts; show l.length ≤ 4; omega, fe.ats⟩
  · simp [hr, t10]
    refine Tells.bind (hold_Next hX hd1 nx1 (by omega) (by omega) (fun y hy => by have := lx y hy; omega) sm60) ?_
    rintro _ g2 ⟨e2, -, h2⟩
    have rh2 := rh1.ext e2 (by simpa using ⟨bb.symm, hd1.ev.1.ob rh1.ob⟩)
    have f2 := f1.ext e2 (by simpa using ⟨fb, f1.out hd1.ev.1⟩)
    have nx2 := Nat.le_trans nx1 e2.next
    rcases h2 with ⟨hn, rfl, hd2⟩ | ⟨j, y, va, vs, hj, hy, rfl, oa2, os2, cv2, vw2, hd2⟩
    · simp [extR]
      refine Tells.newSt (ds := evC ev0 .nils .nils) (by rfl) (by rfl) (by rfl) (by rfl) fun g3 bx ox x3 l3 => ?_
      have hd3 := hd2.ext x3 (by simp) (by simp)
      have rh3 := rh2.ext x3 (by simp)
      have f3 := f2.e x3
      simp [t11]
      refine Tells.bind (rhold_Next hX rh3 us (by omega) (by omega) (fun y hy => by have := lx y hy; omega) sm60) ?_
      rintro _ g4 ⟨e4, ⟨_, rfl, rh4⟩ | ⟨j, y, va, vs, hj, _⟩⟩
      rotate_left
      · rw [hn] at hj; cases hj
      have hbx : bx ≠ br := by have := rh2.ob.lt; omega
      have ox4 := ox.ext e4 (by simpa using hbx)
      have hd4 := hd3.ext e4 (by simpa using bb) (by simpa using .inl rh3.ob.2.1)
      have f4 := f3.ext e4 (by simpa using fr)
      simp [extR]
      refine Tells.newSt (ds := evC ev0 .nils .nils) (by rfl) (by rfl) (by rfl) (by rfl) fun g5 bY oy x5 l5 => ?_
      have ox5 := (ox4.e x5).1
      have oy5 := oy.1
      simp only [evC] at ox5 oy5
      simp [ox5, oy5, Try.underlying4]
      refine Tells.bind (ref_SameEvent hX (by kernel_rfl) (x := ev0) (va := .nils) (vs := .nils) (wa := .nils) (ws := .nils) Sl.nil Sl.nil Sl.nil Sl.nil (by decide) (by decide) (by decide)) ?_
      rintro _ g6 ⟨rfl, x6⟩
      have X56 := x5.trans x6
      simp [sameA_self]
      exact tellsSix hX hi (by simp [t7]) (by simp [t10]) (by simp [t11]) (by simp [t12]) ⟨(f4.e X56).mono (by omega), Nat.le_trans nx2 (Nat.le_trans x3.next (Nat.le_trans e4.next X56.next)), bb, fb, fr, s, es, cv, vw, vl, pv, nv, hd4.ext X56 (by simp) (by simp), rh4.ext X56 (by simp), us, sm.mono (by omega), ls, by omega, lx⟩ hQ2
    · have hm := List.mem_of_getElem? hy
      simp [extR]
      refine Tells.newSt (ds := evC y va vs) (by rfl) (by rfl) (by rfl) (by simp [evC, oa2.one, os2.one]) fun g3 bx ox x3 l3 => ?_
      have hd3 := hd2.ext x3 (by simp) (by simp)
      have rh3 := rh2.ext x3 (by simp)
      have f3 := f2.e x3
      simp [t11]
      refine Tells.bind (rhold_Next hX rh3 us (by omega) (by omega) (fun y hy => by have := lx y hy; omega) sm60) ?_
      rintro _ g4 ⟨e4, ⟨hn, _⟩ | ⟨j', y', va', vs', hj', hy', rfl, oa4, os4, vl4, pv4, nv4, rh4⟩⟩
      · rw [hn] at hj; cases hj
      rw [hj] at hj'
      cases hj'
      rw [hy] at hy'
      cases hy'
      have hbx : bx ≠ br := by have := rh2.ob.lt; omega
      have ox4 := ox.ext e4 (by simpa using hbx)
      have hd4 := hd3.ext e4 (by simpa using bb) (by simpa using .inl rh3.ob.2.1)
      have f4 := f3.ext e4 (by simpa using fr)
      simp [extR]
      refine Tells.newSt (ds := evC y va' vs') (by rfl) (by rfl) (by rfl) (by simp [evC, oa4.one, os4.one]) fun g5 bY oy x5 l5 => ?_
      have ox5 := (ox4.e x5).1
      have oy5 := oy.1
      simp only [evC] at ox5 oy5
      have ly := lx y hm
      simp [ox5, oy5, Try.underlying4]
      refine Tells.bind (ref_SameEvent hX (by kernel_rfl) (x := y) (va := va) (vs := vs) (wa := va') (ws := vs') (((oa2.ext x3).ext e4).ext x5) (((os2.ext x3).ext e4).ext x5) (oa4.ext x5) (os4.ext x5) (by omega) (by omega) (by omega)) ?_
      rintro _ g6 ⟨rfl, x6⟩
      have X56 := x5.trans x6
      have hjl := dueI_lt hj
      simp [sameA_self]
      exact tellsSix hX hi (by simp [t7]) (by simp [t10]) (by simp [t11]) (by simp [t12]) ⟨(f4.e X56).mono (by omega), Nat.le_trans nx2 (Nat.le_trans x3.next (Nat.le_trans e4.next X56.next)), bb, fb, fr, take s y.sts, es.take j ++ es.drop (j + 1), cv2, vw2, vl4, pv4, nv4, hd4.ext X56 (by simp) (by simp), rh4.ext X56 (by simp), take_up us _, (Small.take (by omega) sm y.sts).mono (by omega), by rw [take_length]; exact ls, by simp; omega, fun z hz => lx z (mem_less hz)⟩ hQ2

theorem tells (hX : OnlyKnown X) (hk : X F_precentorlaw16_known [] = some (.bool true)) {h : Heap} {v1 v2 : AVal} {xs1 xs2 : List Int} (r1 : RawInts h v1 xs1) (r2 : RawInts h v2 xs2) (n : Int) (hn : In64 n) :
    Tells (fun m => acallX Try.prog X m F_precentorlaw16_HoldTells [v1, v2, I n] h) fun a _ => a = .bool true := by
  refine R_precentorlaw16_HoldTells _ _ _ (hX _ _ rfl) ?_
  refine Tells.prot fun Q' hQ => ?_
  unfold S_precentorlaw16_HoldTells
  simp [bldR, fillR, splice, r1.sl.known, r1.sl.cells]
  refine Tells.box rfl rfl fun h1 bf of x1 l1 => ?_
  have f1 : Feed h1 bf 0 := RawInts.feed' (r1.ext x1) of
  try simp
  refine Tells.bind (Tells.loop (fun n' t g => ∃ (i : Nat) (ps : List Int), t 1 = v2 ∧ t 2 = I n ∧ t 7 = .ptr bf 0 ∧ t 9 = I i ∧ i + n' = 4 ∧ Gl intR h1 g (t 8) ps ∧ ps.length ≤ i ∧ Ext [] h1 g)
    (Q := fun p g => p.1 = .exit 0 ∧ p.2 2 = I n ∧ p.2 7 = .ptr bf 0 ∧ Ext [] h1 g ∧ ∃ ps, Sl intR g (p.2 8) ps ∧ ps.length ≤ 4) ?_ 4 _ _ ?_) ?_
  · rintro n' t g ⟨i, ps, t1, t2, t7, t9, hi, gq, lp, x⟩
    refine Tells.prot fun Q2 hQ2 => ?_
    have o2 := (r2.sl.ext x1).ext x
    unfold L_precentorlaw16_HoldTells_11
    by_cases c1 : i < xs2.length
    · by_cases c2 : i < 4
      · obtain ⟨y, hy⟩ : ∃ y, xs2[i]? = some y := ⟨_, List.getElem?_eq_getElem c1⟩
        obtain ⟨b, p, B, q1, q2, q3⟩ := o2.atI hy
        have w : IntKind.i64.wrap ((i : Int) + 1) = i + 1 := wrap_id (by omega) (by omega)
        simp [t1, t9, o2.len, c1, show (i : Int) < 4 by omega, J_precentorlaw16_HoldTells_12, q1, q2, q3]
        refine Tells.bind (Pick hX y 6 ⟨by decide, by decide⟩ g) ?_
        rintro _ g ⟨rfl, rfl⟩
        try simp
        refine Tells.app1 gq (by rfl) (by rfl) (show intR.rep g [I (pick y 6)] (pick y 6) from rfl) (by rfl) (by rfl) (by omega) (by decide) x.next fun s3 g3 gl3 x3 y3 z3 => ?_
        simp [J_precentorlaw16_HoldTells_13, t9, w]
        exact Tells.ok (hQ2 _ _ (.inl ⟨rfl, n' - 1, by omega, i + 1, ps ++ [pick y 6], by simp [t1], by simp [t2], by simp [t7], by simp, by omega, by simpa using gl3, by simp; omega, y3 _ x⟩))
      · simp [t1, t9, o2.len, c1, show ¬ (i : Int) < 4 by omega]
        exact Tells.ok (hQ2 _ _ (.inr ⟨by simp, rfl, by simp [t2], by simp [t7], x, ps, by simpa using gq.1, by omega⟩))
    · simp [t1, t9, o2.len, c1]
      exact Tells.ok (hQ2 _ _ (.inr ⟨by simp, rfl, by simp [t2], by simp [t7], x, ps, by simpa using gq.1, by omega⟩))
  · exact ⟨0, [], by simp, by simp, by simp, by simp, by omega, by simpa using Gl.nil, by simp, .refl⟩
  · rintro ⟨ex, t⟩ g ⟨rfl, t2, t7, x, ps, oq, lp⟩
    simp only at t2 t7 oq
    have hp : -9223372036854775808 ≤ pick n 8 - 1 ∧ pick n 8 - 1 < 9223372036854775808 := by have := pick_lo n 8; have := pick_hi n 8 (by decide); omega
    have w : IntKind.i64.wrap (pick n 8 - 1) = pick n 8 - 1 := wrap_id hp.1 hp.2
    simp [J_precentorlaw16_HoldTells_0, t2]
    refine Tells.bind (Pick hX n 8 ⟨by decide, by decide⟩ g) ?_
    rintro _ g ⟨rfl, rfl⟩
    simp [w]
    refine Tells.bind (hold_New hX (pick n 8 - 1) oq (by omega) 0) ?_
    rintro _ g2 ⟨b, cv, rfl, hd, wc, x2, l2⟩
    try simp
    refine Tells.bind (rhold_New hX (pick n 8 - 1) (oq.ext x2) (by omega)) ?_
    rintro _ g3 ⟨br, pv, nv, rfl, rh, x3, l3⟩
    try simp
    refine Tells.bind (known_X hk g3) ?_
    rintro _ g3 ⟨rfl, rfl⟩
    have pn := fun y z => ptr_nil (t := 36) Try.underlying36 y z b 0
    simp [pn, J_precentorlaw16_HoldTells_1]
    have fr := newS_fresh ps
    have ln := newS_length ps
    have hd3 := hd.ext x3 (by simp) (by simp)
    have f3 := ((f1.e x).e x2).e x3
    have hbf := (f1.e x).lt
    have hb := hd.ob.lt
    have nx2 := x2.next
    have nx3 := x3.next
    refine Tells.bind (Tells.loop (fun n' t' g' => ∃ i : Nat, t' 7 = .ptr bf 0 ∧ t' 10 = .ptr b 0 ∧ t' 11 = .ptr br 0 ∧ t' 12 = I i ∧ i + n' = 24 ∧ HInv i g g' bf b br (pick n 8 - 1)) (Q := fun p _ => p.1 = .exit 2) ?_ 24 _ _ ?_) ?_
    · rintro n' t' g' ⟨i, k7, k10, k11, k12, hi, o⟩
      refine Tells.prot fun Q2 hQ2 => ?_
      unfold L_precentorlaw16_HoldTells_3
      by_cases c1 : i < 24
      · simp [k12, show (i : Int) < 24 by omega]
        exact tellsStep hX c1 (by simp [k7]) (by simp [k10]) (by simp [k11]) (by simp [k12]) o fun t2 g2 j7 j10 j11 j12 o2 => hQ2 _ _ (.inl ⟨rfl, n' - 1, by omega, i + 1, j7, j10, j11, by simpa using j12, by omega, o2⟩)
      · simp [k12, show ¬ (i : Int) < 24 by omega]
        exact Tells.ok (hQ2 _ _ (.inr ⟨by simp, rfl⟩))
    · exact ⟨0, by simp [t7], by simp, by simp, by simp, by omega, f3, Nat.le_trans nx2 nx3, by omega, by omega, by omega, newS ps, [], cv, .nils, .nils, pv, nv, hd3, rh, fr.up, fr.small.mono (by omega), by omega, by simp, by simp⟩
    · rintro ⟨ex, t'⟩ g' rfl
      simp [J_precentorlaw16_HoldTells_2]
      exact Tells.ok (hQ _ _ rfl)
end
end Go.Proofs.Ytbpbdigehfkjjaa
