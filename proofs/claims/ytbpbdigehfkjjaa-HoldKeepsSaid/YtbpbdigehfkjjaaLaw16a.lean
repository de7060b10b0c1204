/-
  Law HoldKeeps: the walk.
-/
import Derived.Test.YtbpbdigehfkjjaaHold2
import Derived.Test.YtbpbdigehfkjjaaRefE
import Derived.Test.YtbpbdigehfkjjaaCls
import Derived.Test.YtbpbdigehfkjjaaKnown0
import Derived.Test.YtbpbdigehfkjjaaRow0
import Derived.Test.YtbpbdigehfkjjaaSprecentorlaw16
set_option linter.unusedVariables false
set_option linter.unusedSimpArgs false
namespace Go.Proofs.Ytbpbdigehfkjjaa
open Go.Ab

theorem root_extC {b : Nat} {h h' : Heap} (x : ExtC b h h') (c : Nat) : h'.root c = h.root c := by unfold Heap.root; rw [x.cls]
theorem UpK.extC {K b : Nat} {h h' : Heap} {v : AVal} (w : UpK K h v) (x : ExtC b h h') : UpK K h' v := fun c hc => by
  obtain ⟨w1, w2, w3⟩ := w c hc
  exact ⟨by rw [root_extC x]; exact w1, by rw [x.n0]; exact w2, by rw [x.next]; exact w3⟩
theorem UpK.apart {K b : Nat} {h : Heap} {v : AVal} (w : UpK K h v) (hb : h.root b < K) : Apart h b v :=
  Apart.of fun c hc q => by have := (w c hc).1; omega
theorem Tells.litW' {β : Type} {Q : β → Heap → Prop} {h : Heap} {call : Nat → FuncId → List AVal → Heap → Res AVal} {α : Type} {r : Rp α} {xs : List α} {css : List (List AVal)} {n j : Nat} {z cells : List AVal} {parts : List (Nat × Nat × AVal)} {k : Nat → AVal → Heap → Res β} (hn : r.n = n) (o : All2 (r.rep h) css xs) (hk : xs.length = j) (hc : css.flatten = cells)
    (e : bslR n z j h parts = .val (.sl h.next 0 j j n true) (h.new false cells)) (q : ∀ v h1, Gl r h h1 v xs → Wr h h1 v → Ext [] h h1 → Tells (fun m => k m v h1) Q) : Tells (fun m => arb (bslR n z j h parts) (call m) (k m)) Q := by
  simp only [e, arb_val]
  have g := (Sl.lit (h0 := h) hn o hk hc).2
  refine q _ _ g (fun b hb => ?_) (Ext.new _ _ _)
  have hl := (g.1.blk b hb).2
  simp [AVal.blks] at hb
  subst hb
  refine ⟨?_, n0_le h, hl⟩
  unfold Heap.root
  rw [Heap.cls_new, Heap.cls_ge (Nat.le_refl _)]
  exact Nat.le_refl _
theorem pair_flat {h h' : Heap} {cs : List AVal} {x : Int × Int} : pairR.rep h cs x → pairR.rep h' cs x := fun q => q
theorem attr_flat {h h' : Heap} {cs : List AVal} {x : Att} : attrR.rep h cs x → attrR.rep h' cs x := fun q => q
theorem evR_extC {K b : Nat} {h h' : Heap} {cs : List AVal} {x : Ev} (e : (evR K).rep h cs x) (y : ExtC b h h') (hb : h.root b < K) : (evR K).rep h' cs x := by
  obtain ⟨va, vs, rfl, oa, os, ua, us⟩ := e
  exact ⟨va, vs, rfl, oa.extC attr_flat y (ua.apart hb), os.extC pair_flat y (us.apart hb), ua.extC y, us.extC y⟩
theorem Hd.extC {K : Nat} {h0 h h' : Heap} {b b' : Nat} {most : Int} {s : Slots} {es : List Ev} {vs vw : AVal} (o : Hd K h0 h b most s es vs vw) (x : ExtC b' h h') (hm : h.isM b' = false) (hb : h.root b' < K) (hK : K ≤ h0.next) (u : UpK K h vs) : Hd K h0 h' b most s es vs vw := by
  have uw : UpK K h vw := UpK.of o.wr hK
  obtain ⟨⟨css, h1, h2⟩, gr⟩ := o.ev
  refine ⟨o.ob.extC x hm, o.sl.extC pair_flat x (u.apart hb), ⟨⟨css, h1.extC x (uw.apart hb), h2.imp fun _ _ k => evR_extC k x hb⟩, gr.extC x (uw.apart hb)⟩, ?_⟩
  exact UpK.extC (K := h0.next) o.wr x

theorem RawInts.feed' {h : Heap} {v : AVal} {xs : List Int} {bf : Nat} (o : RawInts h v xs) (ob : Ob h bf [v, I 0]) : Feed h bf 0 := ⟨v, 0, xs, ob, by omega, by omega, o.sl, o.small⟩

theorem Tells.litX {β : Type} {Q : β → Heap → Prop} {h h1 : Heap} {call : Nat → FuncId → List AVal → Heap → Res AVal} {n j : Nat} {z : List AVal} {parts : List (Nat × Nat × AVal)} {v : AVal} {k : Nat → AVal → Heap → Res β} (e : bslR n z j h parts = .val v h1) (q : Tells (fun m => k m v h1) Q) :
    Tells (fun m => arb (bslR n z j h parts) (call m) (k m)) Q := by
  simp only [e, arb_val]
  exact q
theorem Tells.appNW {β : Type} {Q : β → Heap → Prop} {h : Heap} {call : Nat → FuncId → List AVal → Heap → Res AVal} {α : Type} {r : Rp α} {h0 : Heap} {xs ys : List α} {s v : AVal} {n by_ : Nat} {k : Nat → AVal → Heap → Res β} (g : Gl r h0 h s xs) (wr : Wr h0 h s) (o : Sl r h v ys) (hn : r.n = n) (hl : xs.length + ys.length ≤ 2 ^ 34)
    (hby : by_ ≤ 2 ^ 12) (hle : h0.next ≤ h.next) (q : ∀ s' h', Gl r h0 h' s' (xs ++ ys) → Wr h0 h' s' → Ext s.blks h h' → (∀ S, Ext S h0 h → Ext S h0 h') → (∀ b, b ∈ s'.blks → b ∈ s.blks ∨ h.next ≤ b) → Tells (fun m => k m s' h') Q) :
    Tells (fun m => arb (appR n by_ h s v) (call m) (k m)) Q := by
  obtain ⟨s', h', q1, q2, q3, q4, q5⟩ := g.appN (by_ := by_) o hn hl hby hle
  simp only [q1, arb_val]
  exact q s' h' q2 (appR_wr q1 wr hle) q3 q4 fun b hb => (q5 b hb).imp_right fun z => by omega
theorem Wr.low {S : List Nat} {a h g : Heap} {v : AVal} (w : Wr a h v) (e : Ext S h g) : ∀ c, c ∈ v.blks → g.root c < h.next ∧ g.n0 ≤ c := fun c hc => by
  obtain ⟨w1, w2, w3⟩ := w c hc
  have := root_le g c
  exact ⟨by omega, by rw [e.n0]; exact w2⟩

/-- What is handed in, as the law changes it. -/
def keptE (x : Ev) (n : Int) : Ev := ⟨x.c, x.b, x.s, x.e, x.p, x.ats ++ [(bs [122], ⟨1, n, 0, bs [], false⟩)], [(3, 2)]⟩
def firstE (x : Ev) : Ev := ⟨x.c.tmod 6 + 1, 0, 1, 0, 0, [], [(3, 1)]⟩

section
variable {X : XTab}
/-- The end: two are told. -/
theorem keepsEnd (hX : OnlyKnown X) {Q' : AVal → Heap → Prop} (hQ : ∀ h, Q' (.bool true) h) {t : T} {g h0 : Heap} {K b bw bt : Nat} {x : Ev} {n : Int} {cv vw v56 v64 vt : AVal} (t7 : t 7 = .ptr bw 0) (t8 : t 8 = .ptr b 0) (t11 : t 11 = .ptr bt 0)
    (o : Hd K h0 g b 3 [(3, 1)] [keptE x n, firstE x] cv vw) (hle : h0.next ≤ g.next) (ow : Ob g bw (evC x v56 v64)) (oa : Sl attrR g v56 (keptE x n).ats) (os : Sl pairR g v64 [(3, 2)]) (ot : Ob g bt (evC (firstE x) .nils vt)) (hl : x.ats.length ≤ 5)
    (hbw : bw ≠ b) (hbt : bt ≠ b) :
    Tells (fun m => J_precentorlaw16_HoldKeeps_2 Try.prog (acallX Try.prog X m) m (retK Try.prog [.tmp 4]) t g) Q' := by
  have d1 : dueI [(3, 1)] [keptE x n, firstE x] = some 1 := rfl
  unfold J_precentorlaw16_HoldKeeps_2
  simp [t8]
  refine Tells.bind (hold_Next hX o hle (by simp) (by simp) (by simp [keptE, firstE]) (by intro z hz; simp at hz; subst hz; simp)) ?_
  rintro _ g1 ⟨e1, y1, ⟨q, _⟩ | ⟨i, z, va, vs, hi, hz, rfl, oa1, os1, cv1, vw1, o1⟩⟩
  · rw [d1] at q; cases q
  rw [d1] at hi
  cases hi
  simp at hz
  subst hz
  have ow1 := ow.ext e1 (by simpa using ⟨hbw, o.ev.1.ob ow⟩)
  have ot1 := ot.ext e1 (by simpa using ⟨hbt, o.ev.1.ob ot⟩)
  have oas := oa.ext e1
  have oss := os.ext e1
  have hle1 := Nat.le_trans hle e1.next
  simp [extR]
  refine Tells.newSt (ds := evC (firstE x) va vs) (by rfl) (by rfl) (by rfl) (by simp [evC, oa1.one, os1.one]) fun g2 bx ox x2 l2 => ?_
  have o2 := o1.ext x2 (by simp) (by simp)
  have o2 : Hd K h0 g2 b 3 [(3, 2)] [keptE x n] cv1 vw1 := o2
  have ow2 := ow1.e x2
  have ot2 := ot1.e x2
  have d2 : dueI [(3, 2)] [keptE x n] = some 0 := rfl
  simp [t8]
  refine Tells.bind (hold_Next hX o2 (Nat.le_trans hle1 x2.next) (by simp) (by simp) (by simp [keptE]) (by intro z hz; simp at hz; subst hz; simp)) ?_
  rintro _ g3 ⟨e3, y3, ⟨q, _⟩ | ⟨i, z, va3, vs3, hi, hz, rfl, oa3, os3, cv3, vw3, o3⟩⟩
  · rw [d2] at q; cases q
  rw [d2] at hi
  cases hi
  simp at hz
  subst hz
  have hbx : bx ≠ b := by have := o1.ob.lt; omega
  have ow3 := ow2.ext e3 (by simpa using ⟨hbw, o2.ev.1.ob ow2⟩)
  have ot3 := ot2.ext e3 (by simpa using ⟨hbt, o2.ev.1.ob ot2⟩)
  have ox3 := ox.ext e3 (by simpa using ⟨hbx, o2.ev.1.ob ox⟩)
  simp [extR]
  refine Tells.newSt (ds := evC (keptE x n) va3 vs3) (by rfl) (by rfl) (by rfl) (by simp [evC, oa3.one, os3.one]) fun g4 bY oy x4 l4 => ?_
  have ow4 := ow3.e x4
  have ot4 := ot3.e x4
  have ox4 := ox3.e x4
  have ow4 : Ob g4 bw (evC (keptE x n) v56 v64) := ow4
  have e34 := (e3.then x4 (by simp))
  have oa4 := ((oas.ext x2).ext e3).ext x4
  have os4 := ((oss.ext x2).ext e3).ext x4
  have oy1 := oy.1
  have ow1' := ow4.1
  simp only [evC] at oy1 ow1'
  simp [ox4.1, ot4.1, evC, t11, t7, oy1, ow1']
  refine Tells.bind (ref_SameEvent hX (by kernel_rfl) (x := keptE x n) (va := va3) (vs := vs3) (wa := v56) (ws := v64) (oa3.ext x4) (os3.ext x4) oa4 os4 (by simp [keptE]; omega) (by simp [keptE]; omega) (by simp [keptE])) ?_
  rintro _ g5 ⟨rfl, x5⟩
  simp [sameA_self]
  exact Tells.ok (hQ _)
/-- What is handed in is written in; nothing is due; a first one is put. -/
theorem keepsMid (hX : OnlyKnown X) {Q' : AVal → Heap → Prop} (hQ : ∀ h, Q' (.bool true) h) {t : T} {g h0 : Heap} {K b be bw : Nat} {x : Ev} {n : Int} {cv vw v38 v20 v56 v64 : AVal} (t1 : t 1 = I n) (t6 : t 6 = .ptr be 0) (t7 : t 7 = .ptr bw 0) (t8 : t 8 = .ptr b 0)
    (hxc : 1 ≤ x.c ∧ x.c ≤ 6) (hl : x.ats.length ≤ 5)
    (o : Hd K h0 g b 3 [(3, 1)] [keptE x n] cv vw) (uc : UpK K g cv) (hK : K ≤ h0.next) (hle : h0.next ≤ g.next)
    (oe : Ob g be (evC x v38 v20)) (pa : Sl attrR g v38 (keptE x n).ats) (ps : Sl pairR g v20 [(3, 2)]) (wa : ∀ c, c ∈ v38.blks → g.root c < K ∧ g.n0 ≤ c) (ws : ∀ c, c ∈ v20.blks → g.root c < K ∧ g.n0 ≤ c) (ap : ∀ c, c ∈ v38.blks → Apart g c v20)
    (ow : Ob g bw (evC x v56 v64)) (oa : Sl attrR g v56 (keptE x n).ats) (os : Sl pairR g v64 [(3, 2)]) (ua : UpK K g v56) (us : UpK K g v64) (hbw : bw ≠ b) (hbe : be ≠ b) :
    Tells (fun m => J_precentorlaw16_HoldKeeps_0 Try.prog (acallX Try.prog X m) m (retK Try.prog [.tmp 4]) t g) Q' := by
  have hlen : (keptE x n).ats.length = x.ats.length + 1 := by simp [keptE]
  have hz : (keptE x n).ats[x.ats.length]? = some (bs [122], ⟨1, n, 0, bs [], false⟩) := by simp [keptE]
  have w1 : IntKind.i64.wrap (((x.ats.length + 1 : Nat) : Int) - 1) = x.ats.length := by rw [wrap_id (by omega) (by omega)]; omega
  obtain ⟨b1, p1, B1, c1, hb1, hm1, hlt1, i1, el1, hr1, k1⟩ := pokeC (n := 6) (by rfl) attr_flat pa (fun c hc => (wa c hc).2) hz
  have hr1 : c1 = attC (bs [122], ⟨1, n, 0, bs [], false⟩) := hr1
  subst hr1
  obtain ⟨hw1, _⟩ := wa b1 (by rw [hb1]; simp)
  obtain ⟨g1, st1, xc1, -, -⟩ := k1 2 (I (IntKind.i64.wrap (n + 1))) (bs [122], ⟨1, IntKind.i64.wrap (n + 1), 0, bs [], false⟩) (by decide) rfl rfl rfl
  have o1 := o.extC xc1 hm1 hw1 hK uc
  have uc1 := uc.extC xc1
  have oe1 := oe.extC xc1 hm1
  have ps1 := ps.extC pair_flat xc1 (ap b1 (by rw [hb1]; simp))
  have ow1 := ow.extC xc1 hm1
  have oa1 := oa.extC attr_flat xc1 (ua.apart hw1)
  have os1 := os.extC pair_flat xc1 (us.apart hw1)
  have ua1 := ua.extC xc1
  have us1 := us.extC xc1
  obtain ⟨b2, p2, B2, c2, hb2, hm2, hlt2, i2, el2, hr2, k2⟩ := pokeC (n := 2) (by rfl) pair_flat ps1 (fun c hc => by rw [xc1.n0]; exact (ws c hc).2) (i := 0) (y := (3, 2)) rfl
  have hr2 : c2 = [I 3, I 2] := hr2
  subst hr2
  have hw2 : g1.root b2 < K := by rw [root_extC xc1]; exact (ws b2 (by rw [hb2]; simp)).1
  obtain ⟨g2, st2, xc2, -, -⟩ := k2 1 (I 1) (3, 1) (by decide) rfl rfl rfl
  have o2 := o1.extC xc2 hm2 hw2 hK uc1
  have uc2 := uc1.extC xc2
  have oe2 := oe1.extC xc2 hm2
  have ow2 := ow1.extC xc2 hm2
  have oa2 := oa1.extC attr_flat xc2 (ua1.apart hw2)
  have os2 := os1.extC pair_flat xc2 (us1.apart hw2)
  have hle2 : h0.next ≤ g2.next := by rw [xc2.next, xc1.next]; exact hle
  have st1 : stR 1 g (.ptr b1 (p1 + 1 + 1)) (.int .i64 (IntKind.i64.wrap (n + 1))) = .val aUndef g1 := st1
  have st1' : stR 1 g (.ptr b1 (p1 + 2)) (.int .i64 (IntKind.i64.wrap (n + 1))) = .val aUndef g1 := st1
  have i2 : ixsR 2 v20 (.int .i64 0) = some (.ptr b2 p2) := i2
  have w1' : IntKind.i64.wrap (x.ats.length : Int) = x.ats.length := wrap_id (by omega) (by omega)
  have len1 : lenL v38 = some (I ((x.ats.length : Int) + 1)) := by have := pa.len; rw [hlen] at this; exact this
  simp [J_precentorlaw16_HoldKeeps_0, t1, t6, t8, oe.1, evC, len1, w1', i1, st1, st1', oe1.1, i2, st2]
  have d0 : dueI [(3, 1)] [keptE x n] = none := rfl
  refine Tells.bind (hold_Next hX o2 hle2 (by simp) (by simp) (by simp [keptE]) (by intro z hz; simp at hz; subst hz; simp)) ?_
  rintro _ g3 ⟨e3, y3, ⟨_, rfl, o3⟩ | ⟨i, z, va, vs, hi, _⟩⟩
  rotate_left
  · rw [d0] at hi; cases hi
  have oe3 := oe2.ext e3 (by simpa using ⟨hbe, o2.ev.1.ob oe2⟩)
  have ow3 := ow2.ext e3 (by simpa using ⟨hbw, o2.ev.1.ob ow2⟩)
  have oa3 := oa2.ext e3
  have os3 := os2.ext e3
  have hle3 := Nat.le_trans hle2 e3.next
  simp [extR]
  refine Tells.newSt (ds := evC ev0 .nils .nils) (by rfl) (by rfl) (by rfl) (by rfl) fun g4 bz oz x4 l4 => ?_
  have oe4 := oe3.e x4
  have ow4 := ow3.e x4
  have o4 := o3.ext x4 (by simp) (by simp)
  have rem : ∀ y z, aBin Try.prog .rem 3 y z (I x.c) (I 6) = some (I (x.c.tmod 6)) := fun y z => aBin_rem _ _ _ _ _ _ _ (by decide)
  have hmod : 0 ≤ x.c.tmod 6 ∧ x.c.tmod 6 < 6 := ⟨Int.tmod_nonneg _ (by omega), Int.tmod_lt_of_pos _ (by omega)⟩
  have w2 : IntKind.i64.wrap (x.c.tmod 6) = x.c.tmod 6 := wrap_id (by omega) (by omega)
  have w3 : IntKind.i64.wrap (x.c.tmod 6 + 1) = x.c.tmod 6 + 1 := wrap_id (by omega) (by omega)
  simp [J_precentorlaw16_HoldKeeps_1, t6, oe4.1, evC, rem, w3, bldR, fillR, splice]
  refine Tells.litW' (r := pairR) (xs := [(3, 1)]) (css := [[I 3, I 1]]) (by rfl) ⟨rfl, trivial⟩ (by rfl) (by rfl) (bsl1_agg (by rfl) (by rfl)) fun v5 g5 gl5 wr5 x5 => ?_
  have o5 := o4.ext x5 (by simp) (by simp)
  have ow5 := ow4.e x5
  simp [gl5.1.known, gl5.1.cells]
  refine Tells.newSt (ds := evC (firstE x) .nils v5) (by rfl) (by rfl) (by rfl) (by simp [evC, gl5.1.one]) fun g6 bt ot x6 l6 => ?_
  have o6 := o5.ext x6 (by simp) (by simp)
  have ow6 := ow5.e x6
  have ot1 := ot.1
  simp only [evC] at ot1
  have hle6 : h0.next ≤ g6.next := Nat.le_trans hle3 (Nat.le_trans x4.next (Nat.le_trans x5.next x6.next))
  simp [t8, ot1, firstE]
  refine Tells.bind (hold_Put hX o6 (Nat.le_trans hK hle6) hle6 (by simp) (x := firstE x) (va := .nils) (vs := v5) Sl.nil (gl5.1.ext x6) (by simp [firstE]) (by simp [firstE])) ?_
  rintro _ g7 ⟨rfl, ⟨vw7, o7⟩, e7, y7⟩
  have hheld : heldE [keptE x n] (firstE x) = false := by
    have : x.c ≠ x.c.tmod 6 + 1 := by
      rcases (show x.c = 1 ∨ x.c = 2 ∨ x.c = 3 ∨ x.c = 4 ∨ x.c = 5 ∨ x.c = 6 by omega) with q | q | q | q | q | q <;> rw [q] <;> decide
    simp [heldE, keptE, firstE, this]
  have hput : putE 3 [keptE x n] (firstE x) = (0, [keptE x n, firstE x]) := by simp [putE, hheld]
  rw [hput] at o7
  have hbt : bt ≠ b := by have := o5.ob.lt; omega
  have ow7 := ow6.ext e7 (by simpa using ⟨hbw, o6.ev.1.ob ow6⟩)
  have ot7 := ot.ext e7 (by simpa using ⟨hbt, o6.ev.1.ob ot⟩)
  simp [hput]
  exact keepsEnd hX hQ (by simp [t7]) (by simp [t8]) (by simp) o7 (Nat.le_trans hle6 e7.next) ow7 ((((oa3.ext x4).ext x5).ext x6).ext e7) ((((os3.ext x4).ext x5).ext x6).ext e7) ot7 hl hbw hbt

theorem keeps (hX : OnlyKnown X) (hk : X F_precentorlaw16_known [] = some (.bool true)) {h : Heap} {v1 : AVal} {xs1 : List Int} (r1 : RawInts h v1 xs1) (n : Int) (hn : In64 n) :
    Tells (fun m => acallX Try.prog X m F_precentorlaw16_HoldKeeps [v1, I n] h) fun a _ => a = .bool true := by
  refine R_precentorlaw16_HoldKeeps _ _ (hX _ _ rfl) ?_
  refine Tells.prot fun Q' hQ => ?_
  unfold S_precentorlaw16_HoldKeeps
  simp [bldR, fillR, splice, r1.sl.known, r1.sl.cells]
  refine Tells.box rfl rfl fun h1 bf of x1 l1 => ?_
  have f1 : Feed h1 bf 0 := RawInts.feed' (r1.ext x1) of
  try simp
  refine Tells.bind (EventH hX f1 (by omega)) ?_
  rintro _ h2 ⟨x, va, vs, rfl, fe, ga, wa, gs, ws, hd, x2, f2⟩
  refine Tells.newSt (ds := evC x va vs) (by rfl) (by rfl) (by rfl) (by simp [evC, ga.1.one, gs.1.one]) fun h3 be oe x3 l3 => ?_
  try simp
  refine Tells.litX (v := .sl h3.next 0 1 1 2 true) (h1 := h3.new false [I 3, I 2]) (bsl1_agg (by rfl) (by rfl)) ?_
  have x4 := Ext.new h3 false [I 3, I 2]
  have s4 : Sl pairR (h3.new false [I 3, I 2]) (.sl h3.next 0 1 1 2 true) [(3, 2)] := (Sl.lit (r := pairR) (xs := [(3, 2)]) (h0 := h3) (css := [[I 3, I 2]]) rfl ⟨rfl, trivial⟩ rfl rfl).1
  have c4 : (h3.new false [I 3, I 2]).cls h3.next = none := by rw [Heap.cls_new]; exact Heap.cls_ge (Nat.le_refl _)
  have n4 : h3.next < (h3.new false [I 3, I 2]).next := (s4.blk h3.next (by simp [AVal.blks])).2
  have w4 : Wr h3 (h3.new false [I 3, I 2]) (.sl h3.next 0 1 1 2 true) := fun c hc => by
    simp [AVal.blks] at hc
    subst hc
    refine ⟨?_, by rw [x4.n0]; exact n0_le h3, n4⟩
    unfold Heap.root
    rw [c4]
    exact Nat.le_refl _
  have vk : (AVal.sl h3.next 0 1 1 2 true).cells = [AVal.sl h3.next 0 1 1 2 true] := rfl
  have v1k : (AVal.sl h3.next 0 1 1 2 true).one = true := rfl
  have vb : ∀ c, c ∈ (AVal.sl h3.next 0 1 1 2 true).blks → c = h3.next := fun c hc => by simpa [AVal.blks] using hc
  generalize hv20 : AVal.sl h3.next 0 1 1 2 true = v20 at s4 w4 vk v1k vb
  generalize h3.new false [I 3, I 2] = h4 at x4 s4 c4 n4 w4
  have oe4 := oe.e x4
  try simp
  refine Tells.st1 oe4 vk v1k (by simp [evC]) fun h5 oe5 x5 => ?_
  have oe5 : Ob h5 be (evC x va v20) := oe5
  have ga5 := ((ga.e x3).e x4).ext x5 (fun c hc q => (((ga.e x3).e x4).1.ob oe4) (by rw [← List.mem_singleton.1 q]; exact hc))
  have wa5 := (((wa.ext x3).ext x4).ext x5)
  have hle5 : h1.next ≤ h5.next := Nat.le_trans x2.next (Nat.le_trans x3.next (Nat.le_trans x4.next x5.next))
  simp [oe5.1, evC]
  refine Tells.app1W ga5 wa5 (by rfl) (by rfl) (show attrR.rep h5 (attC (bs [122], ⟨1, n, 0, bs [], false⟩)) (bs [122], ⟨1, n, 0, bs [], false⟩) from rfl) (by rfl) (by rfl) (by have := fe.ats; omega) (by decide) hle5 fun v38 h6 g6 w6 x6 y6 z6 => ?_
  have oe6 := oe5.ext x6 (ga5.1.ob oe5)
  try simp
  refine Tells.st1 oe6 g6.1.cells g6.1.one (by simp [evC]) fun h7 oe7 x7 => ?_
  have oe7 : Ob h7 be (evC x v38 v20) := oe7
  have a7 := g6.1.ext x7
  have s7 := ((s4.ext x5).ext x6).ext x7
  simp [oe7.1, evC]
  refine Tells.newSt (ds := evC x v38 v20) (by rfl) (by rfl) (by rfl) (by simp [evC, a7.one, s7.one]) fun h8 bw ow x8 l8 => ?_
  have hew : be ≠ bw := by have := oe7.lt; omega
  have oe8 := oe7.e x8
  try simp
  refine Tells.litW' (r := attrR) (xs := ([] : List Att)) (css := []) (by rfl) trivial (by rfl) (by rfl) (bsl0 6 h8) fun v50 h9 g9 w9 x9 => ?_
  have oe9 := oe8.e x9
  have a9 := (a7.ext x8).ext x9
  simp [oe9.1, evC]
  refine Tells.appNW g9 w9 a9 (by rfl) (by have := fe.ats; simp; omega) (by decide) x9.next fun v56 h10 g10 w10 _ y10 z10 => ?_
  have x810 : Ext [] h8 h10 := y10 _ x9
  simp only [List.nil_append] at g10
  have oe10 := oe8.e x810
  have ow10 := ow.e x810
  try simp
  refine Tells.st1 ow10 g10.1.cells g10.1.one (by simp [evC]) fun h11 ow11 x11 => ?_
  have ow11 : Ob h11 bw (evC x v56 v20) := ow11
  have oe11 := oe10.ext x11 (by simpa using hew)
  try simp
  refine Tells.litW' (r := pairR) (xs := [(3, 2)]) (css := [[I 3, I 2]]) (by rfl) ⟨rfl, trivial⟩ (by rfl) (by rfl) (bsl1_agg (by rfl) (by rfl)) fun v64 h12 g12 w12 x12 => ?_
  have ow12 := ow11.e x12
  have oe12 := oe11.e x12
  try simp
  refine Tells.st1 ow12 g12.1.cells g12.1.one (by simp [evC]) fun h13 ow13 x13 => ?_
  have ow13 : Ob h13 bw (evC x v56 v64) := ow13
  have oe13 := oe12.ext x13 (by simpa using hew)
  try simp
  refine Tells.litW' (r := intR) (xs := [3]) (css := [[I 3]]) (by rfl) ⟨rfl, trivial⟩ (by rfl) (by rfl) (bsl1_int _ _ _ _) fun v70 h14 g14 w14 x14 => ?_
  try simp
  refine Tells.bind (hold_New hX 3 g14.1 (by simp) h7.next) ?_
  rintro _ h15 ⟨b, cv, rfl, o15, wc, x15, l15⟩
  have o15 : Hd h7.next h14 h15 b 3 [(3, 1)] [] cv .nils := o15
  try simp
  refine Tells.bind (known_X hk h15) ?_
  rintro _ h15 ⟨rfl, rfl⟩
  have oe15 := (oe13.e x14).e x15
  have ow15 := (ow13.e x14).e x15
  have x715 : Ext [be, bw] h7 h15 := ((((((x8.of.trans x810.of).trans (x11.mono (by simp))).trans x12.of).trans (x13.mono (by simp))).trans x14.of).trans x15.of)
  have pn := fun y z => ptr_nil (t := 36) Try.underlying36 y z b 0
  have a15 : Sl attrR h15 v38 (keptE x n).ats := a7.ext x715
  have s15 : Sl pairR h15 v20 [(3, 2)] := s7.ext x715
  have hK14 : h7.next ≤ h14.next := Nat.le_trans x8.next (Nat.le_trans x810.next (Nat.le_trans x11.next (Nat.le_trans x12.next (Nat.le_trans x13.next x14.next))))
  simp [pn, oe15.1, evC]
  refine Tells.bind (hold_Put hX o15 (Nat.le_trans hK14 x15.next) x15.next (by simp) (x := keptE x n) (va := v38) (vs := v20) a15 s15 (by have := fe.ats; simp [keptE]; omega) (by simp [keptE])) ?_
  rintro _ h16 ⟨rfl, ⟨vw, o16⟩, e16, y16⟩
  have hp : putE 3 [] (keptE x n) = (0, [keptE x n]) := rfl
  rw [hp] at o16
  have hbe : be ≠ b := by have := oe13.lt; have := x14.next; omega
  have hbw : bw ≠ b := by have := ow13.lt; have := x14.next; omega
  have oe16 := oe15.ext e16 (by simpa [AVal.blks] using hbe)
  have ow16 := ow15.ext e16 (by simpa [AVal.blks] using hbw)
  have x716 : Ext [be, bw, b] h7 h16 := (x715.mono (by simp)).trans (e16.mono (by simp [AVal.blks]))
  have x416 : Ext (be :: bw :: b :: va.blks) h4 h16 := (((x5.mono (by simp)).trans (x6.mono (by simp; intros; simp [*]))).trans (x7.mono (by simp))).trans (x716.mono (by simp))
  have x1016 : Ext [bw, b] h10 h16 := (((((x11.mono (by simp)).trans x12.of).trans (x13.mono (by simp))).trans x14.of).trans x15.of).trans (e16.mono (by simp [AVal.blks]))
  have x1216 : Ext [bw, b] h12 h16 := (((x13.mono (by simp)).trans x14.of).trans x15.of).trans (e16.mono (by simp [AVal.blks]))
  have x616 : Ext [be, bw, b] h6 h16 := (x7.mono (by simp)).trans x716
  simp [hp]
  refine keepsMid hX (fun g => hQ _ _ rfl) (K := h7.next) (n := n) (x := x) (by simp) (by simp) (by simp) (by simp) fe.c fe.ats o16 ((UpK.of wc hK14).ext e16) hK14 (Nat.le_trans x15.next e16.next) oe16 (a7.ext x716) (s7.ext x716) (fun c hc => ?_) (fun c hc => ?_) (fun c hc => ?_) ow16 (g10.1.ext x1016) (g12.1.ext x1216) ((UpK.of w10 x8.next).ext x1016) ((UpK.of w12 ?_).ext x1216) hbw hbe
  · have q := Wr.low w6 x616 c hc; have := x7.next; exact ⟨by omega, q.2⟩
  · have q := Wr.low w4 x416 c hc; have := x5.next; have := x6.next; have := x7.next; exact ⟨by omega, q.2⟩
  · intro c' hc'
    have := vb c' hc'
    subst this
    have h4c := x416.cls h3.next n4
    refine ⟨fun q => ?_, fun r hr => by rw [h4c, c4]; simp⟩
    rcases z6 c hc with q1 | q1
    · have := (wa c q1).2.2; have := x3.next; omega
    · have := x5.next; omega
  · exact Nat.le_trans x8.next (Nat.le_trans x810.next x11.next)
end
end Go.Proofs.Ytbpbdigehfkjjaa
