/-
  Texts of a claim, merged: SqT, SqR, RefEX, Known0, SqU, SqN, SqO, SqV, SqQ.
-/
import Derived.Test.YtbkfamdkdjajjaaM2
import Derived.Test.YtbkfamdkdjajjaaCls
import Derived.Test.YtbkfamdkdjajjaaSprecentorref14
import Derived.Test.YtbkfamdkdjajjaaB2
import Derived.Test.YtbkfamdkdjajjaaSIds
import Derived.Test.YtbkfamdkdjajjaaABProg
import Derived.Test.YtbkfamdkdjajjaaRow0
set_option linter.unusedVariables false
set_option linter.unusedSimpArgs false
/-! seq.Pass, of any chain, any way. -/
namespace Go.Proofs.Ytbkfamdkdjajjaa
open Go.Ab

def lastW (way : List Int) : Int := way.getLast?.getD (-1)
def passF (way cs : List Int) (p : Int) (st : List (Int × Int)) : List Int × Int × List (Int × Int) := psF way (lastW way) (lastW way + 1 - p).toNat cs p st
def thruF (way : List Int) (p : Int) : Bool := decide (way.length = 0) || decide (lastW way < p)
theorem psF_stop {way cs : List Int} {last p : Int} {st : List (Int × Int)} {k : Nat} (h : ¬ (p ≤ last ∧ ownC cs p = true)) : psF way last k cs p st = (cs, p, st) := by
  cases k with
  | zero => rfl
  | succ k => unfold psF; rw [if_neg h]
theorem psF_go {way cs : List Int} {last p : Int} {st : List (Int × Int)} {k : Nat} (h : p ≤ last ∧ ownC cs p = true) : psF way last (k + 1) cs p st = if way.any (· == p) = true then psF way last k (cs.set p.toNat (cntC cs p + 1)) (p + 1) (st ++ [(p, cntC cs p + 1)]) else psF way last k cs (p + 1) st := by
  conv => lhs; unfold psF
  rw [if_pos h]
theorem ownC_neg {cs : List Int} {p : Int} (h : p < 0) : ownC cs p = false := by simp [ownC]; intro q; omega
theorem lastW_at {way : List Int} (h : 0 < way.length) : way[way.length - 1]? = some (lastW way) := by
  unfold lastW
  rw [List.getLast?_eq_getElem?]
  rw [List.getElem?_eq_getElem (by omega)]
  rfl

section
variable {X : XTab}

theorem seq_PassG (hX : OnlyKnown X) {h : Heap} {bs bm bn : Nat} {cs way : List Int} {va vs w : AVal} {x : Ev} (so : SeqG h bs bm bn cs) (hcs : cs.length ≤ 4000) (hb : ∀ c, c ∈ cs → c ≤ 2 ^ 40) (sw : Sl intR h w way) (hw : way.length ≤ 4000) (hlw : -1 ≤ lastW way ∧ lastW way ≤ 5000) (hp : -5 ≤ x.p ∧ x.p ≤ 5000)
    (oa : Sl attrR h va x.ats) (la : x.ats.length ≤ 100) (os : Sl pairR h vs x.sts) (ls : x.sts.length ≤ 2 ^ 20) :
    Tells (fun q => acallX Try.prog X q F_seq_Seq_Pass [.ptr bs 0, .agg (evC x va vs), w] h) fun a h' => ∃ va' z, a = .tup [.agg (evC { x with p := (passF way cs x.p x.sts).2.1, sts := (passF way cs x.p x.sts).2.2 } va' z), .bool (thruF way (passF way cs x.p x.sts).2.1)] ∧
      Sl attrR h' va' x.ats ∧ Sl pairR h' z (passF way cs x.p x.sts).2.2 ∧ Wr h h' va' ∧ Wr h h' z ∧ SeqG h' bs bm bn (passF way cs x.p x.sts).1 ∧ Ext [bn] h h' := by
  refine R_seq_Seq_Pass _ _ _ (hX _ _ rfl) ?_
  refine Tells.prot fun Q' hQ => ?_
  have k1 := so.s.lt
  have k2 := so.m.lt
  have k3 := so.n.lt
  unfold S_seq_Seq_Pass
  try simp
  refine Tells.box (cs := evC x va vs) (by simp [evC, AVal.known, oa.known, os.known]) (by simp [evC, AVal.cells]) fun h1 be oe x1 l1 => ?_
  try simp
  refine Tells.new fun h2 bv ov x2 l2 => ?_
  have m1 := x1.next
  have m2 := x2.next
  have oe2 := oe.e x2
  have hev : be ≠ bv := by have := oe.lt; omega
  have x02 := x1.trans x2
  simp [oe2.1, evC]
  refine Tells.copy (r := attrR) (oa.ext x02) (by rfl) (by omega) (by decide) fun va' h3 ga x3 wa => ?_
  have oe3 := oe2.e x3
  have ov3 := ov.e x3
  have x03 := x02.trans x3
  try simp
  refine Tells.st1 oe3 ga.1.cells ga.1.one (by simp [evC]) fun h4 oe4 x4 => ?_
  have oe4 : Ob h4 be (evC x va' vs) := by simpa [evC] using oe4
  have ov4 := ov3.ext x4 (by simpa using Ne.symm hev)
  have x04 : Ext [] h h4 := x03.then x4 (by simp; omega)
  have oa4 := ga.1.ext x4
  have wa4 : Wr h h4 va' := (wa.ext x4).back x02.next
  simp [oe4.1, evC]
  refine Tells.copy (r := pairR) (os.ext x04) (by rfl) (by omega) (by decide) fun z h5 gz x5 wz => ?_
  have oe5 := oe4.e x5
  have ov5 := ov4.e x5
  have x05 := x04.trans x5
  try simp
  refine Tells.st1 oe5 gz.1.cells gz.1.one (by simp [evC]) fun h6 oe6 x6 => ?_
  have oe6 : Ob h6 be (evC x va' z) := by simpa [evC] using oe6
  have ov6 := ov5.ext x6 (by simpa using Ne.symm hev)
  have x06 : Ext [] h h6 := x05.then x6 (by simp; omega)
  have oa6 := (oa4.ext x5).ext x6
  have wa6 := (wa4.ext x5).ext x6
  have gz6 : Gl pairR h h6 z x.sts := (gz.ext x6 (fun b hb q => by simp at q; subst q; exact gz.1.ob oe5 hb)).back x04.next
  have wz6 : Wr h h6 z := (wz.ext x6).back x04.next
  have sw6 := sw.ext x06
  have so6 := so.e x06
  simp [sw6.len]
  by_cases h0 : way.length = 0
  · have hw0 : way = [] := List.eq_nil_of_length_eq_zero h0
    have oe6' := oe6.1
    simp only [evC] at oe6'
    have pn : passF way cs x.p x.sts = (cs, x.p, x.sts) := by
      unfold passF
      refine psF_stop fun q => ?_
      rw [hw0] at q
      have : x.p < 0 := by have := q.1; simp [lastW] at this; omega
      rw [ownC_neg this] at q
      exact absurd q.2 (by simp)
    simp [h0, oe6']
    refine Tells.stN ov6 (ds := evC x va' z) (by rfl) (by rfl) (by simp [evC, oa6.one, gz6.1.one]) (by rfl) fun h7 o7 x7 => ?_
    have o7' := o7.1
    simp only [evC] at o7'
    simp [C_seq_Seq_Pass_0, o7']
    refine Tells.ok (hQ _ _ ⟨va', z, ?_, oa6.ext x7, by rw [pn]; exact gz6.1.ext x7, wa6.ext x7, wz6.ext x7, by rw [pn]; exact so6.ext x7 (by simp; omega) (by simp; omega) (by simp; omega), (x06.then x7 (by simp; omega)).of⟩)
    rw [pn]
    simp [thruF, h0, evC]
  · have hl := lastW_at (way := way) (by omega)
    have h0' : ((way.length : Int) == 0) = false := beq_eq_false_iff_ne.2 (by omega)
    have wl : IntKind.i64.wrap ((way.length : Int) - 1) = ((way.length - 1 : Nat) : Int) := by rw [wrap_id (by omega) (by omega)]; omega
    obtain ⟨b1, p1, B1, j1, j2, j3⟩ := sw6.atI hl
    generalize hL : lastW way = last at *
    simp [h0', J_seq_Seq_Pass_0, sw6.len, wl, j1, j2, j3]
    have hR : passF way cs x.p x.sts = psF way last (last + 1 - x.p).toNat cs x.p x.sts := by unfold passF; rw [hL]
    rw [hR] at hQ
    generalize hRR : psF way last (last + 1 - x.p).toNat cs x.p x.sts = R at hQ
    generalize hN : (last + 1 - x.p).toNat = N0 at hRR
    have hN0 : N0 ≤ 6000 := by omega
    refine Tells.bind (Tells.loop (fun n t g => ∃ (cs' : List Int) (p : Int) (st : List (Int × Int)) (z : AVal), t 0 = .ptr bs 0 ∧ t 2 = w ∧ t 4 = .ptr be 0 ∧ t 6 = .ptr bv 0 ∧ t 8 = I last ∧ SeqG g bs bm bn cs' ∧ cs'.length = cs.length ∧ (∀ c, c ∈ cs' → c + n ≤ 2 ^ 40 + N0) ∧ Ob g be (evC { x with p := p } va' z) ∧ Ob g bv [I 0, I 0, I 0, I 0, I 0, .nils, .nils] ∧ Gl pairR h g z st ∧ Wr h g z ∧ st.length + n ≤ 2 ^ 20 + N0 ∧ Sl attrR g va' x.ats ∧ Wr h g va' ∧ Sl intR g w way ∧ Ext [bn] h g ∧ n ≤ N0 ∧ (p ≤ last → p + n = last + 1) ∧ (last < p → n = 0 ∨ ¬ (p ≤ last)) ∧ -5 ≤ p ∧ p ≤ 5001 ∧ psF way last n cs' p st = R)
      (Q := fun q g => ∃ z, q.1 = .exit 0 ∧ q.2 4 = .ptr be 0 ∧ q.2 6 = .ptr bv 0 ∧ q.2 8 = I last ∧ SeqG g bs bm bn R.1 ∧ Ob g be (evC { x with p := R.2.1 } va' z) ∧ Ob g bv [I 0, I 0, I 0, I 0, I 0, .nils, .nils] ∧ Gl pairR h g z R.2.2 ∧ Wr h g z ∧ Sl attrR g va' x.ats ∧ Wr h g va' ∧ Ext [bn] h g) ?_ N0 _ _ ⟨cs, x.p, x.sts, z, by simp, by simp, by simp, by simp, by simp, so6, rfl, fun c hc => by have := hb c hc; omega, by simpa [evC] using oe6, ov6, gz6, wz6, by omega, oa6, wa6, sw6, x06.of, Nat.le_refl _, fun q => by omega, fun q => .inr (by omega), by omega, by omega, hRR⟩) ?_
    · rintro n t g ⟨cs', p, st, z, t0, t2, t4, t6, t8, sg, lc, hc', oe, ov, gz, wz, lst, oag, wag, swg, xg, hn, hp1, _, pl, ph, hR⟩
      refine Tells.prot fun Q2 hQ2 => ?_
      have oe' := oe.1
      simp only [evC] at oe'
      have stop : ∀ t2 : T, ¬ (p ≤ last ∧ ownC cs' p = true) → t2 4 = .ptr be 0 → t2 6 = .ptr bv 0 → t2 8 = I last → Q2 (.exit 0, t2) g := by
        intro t2 hno a4 a6 a8
        rw [psF_stop hno] at hR
        subst hR
        exact hQ2 _ _ (.inr ⟨by simp, z, rfl, a4, a6, a8, sg, oe, ov, gz, wz, oag, wag, xg⟩)
      unfold L_seq_Seq_Pass_2
      by_cases c1 : p ≤ last
      · simp [t4, oe', t8, c1, t0]
        refine Tells.bind (seq_ownG hX sg p) ?_
        rintro _ g ⟨rfl, rfl⟩
        cases ho : ownC cs' p with
        | false =>
          simp
          exact Tells.ok (stop _ (by simp [ho]) (by simp [t4]) (by simp [t6]) (by simp [t8]))
        | true =>
          obtain ⟨m, rfl⟩ : ∃ m, n = m + 1 := ⟨n - 1, by have := hp1 c1; omega⟩
          rw [psF_go ⟨c1, ho⟩] at hR
          obtain ⟨i, c, rfl, hl1, hl2, hl3⟩ := ownC_at ho
          have wi : IntKind.i64.wrap ((i : Int) + 1) = i + 1 := wrap_id (by omega) (by omega)
          have hcb := hc' _ (List.mem_of_getElem? hl2)
          have wc : IntKind.i64.wrap ((c : Int) + 1) = c + 1 := wrap_id (by omega) (by omega)
          simp [J_seq_Seq_Pass_3, t2, t4, oe']
          refine Tells.bind (seq_hasG hX swg (by omega) (i : Int)) ?_
          rintro _ g ⟨rfl, rfl⟩
          have nxt0 : ∀ (kk : Kn (Ex × T)), (kk = okK ∨ kk = blkK 1 okK) → ∀ (t2 : T) (g2 : Heap) (cs2 : List Int) (st2 : List (Int × Int)) (z2 : AVal), t2 0 = .ptr bs 0 → t2 2 = w → t2 4 = .ptr be 0 → t2 6 = .ptr bv 0 → t2 8 = I last → SeqG g2 bs bm bn cs2 → cs2.length = cs.length → (∀ d, d ∈ cs2 → d + m ≤ 2 ^ 40 + N0) → Ob g2 be (evC { x with p := (i : Int) } va' z2) → Ob g2 bv [I 0, I 0, I 0, I 0, I 0, .nils, .nils] → Gl pairR h g2 z2 st2 → Wr h g2 z2 → st2.length + m ≤ 2 ^ 20 + N0 → Sl attrR g2 va' x.ats → Wr h g2 va' → Sl intR g2 w way → Ext [bn] h g2 → psF way last m cs2 ((i : Int) + 1) st2 = R →
              Tells (fun m => J_seq_Seq_Pass_4 Try.prog (acallX Try.prog X m) m kk t2 g2) Q2 := by
            intro kk hkk t2 g2 cs2 st2 z2 a0 a2 a4 a6 a8 sg2 lc2 hc2 oe2 ov2 gz2 wz2 lst2 oag2 wag2 swg2 xg2 hR2
            have oe2' := oe2.1
            simp only [evC] at oe2'
            have hkn : ∀ t h, kk .normal t h = okK .normal t h := by rcases hkk with rfl | rfl <;> intros <;> rfl
            simp [J_seq_Seq_Pass_4, a4, oe2', wi, hkn]
            refine Tells.st1 oe2 (by rfl) (by rfl) (by simp [evC]) fun g3 oe3 x3 => ?_
            refine Tells.ok (hQ2 _ _ (.inl ⟨rfl, m, by omega, cs2, (i : Int) + 1, st2, z2, by simp [a0], by simp [a2], by simp [a4], by simp [a6], by simp [a8], sg2.ext x3 (by simp; omega) (by simp; omega) (by simp; omega), lc2, hc2, by simpa [evC] using oe3, ov2.ext x3 (by simpa using Ne.symm hev), gz2.ext x3 (fun b hb q => by simp at q; subst q; exact gz2.1.ob oe2 hb), wz2.ext x3, lst2, oag2.ext x3, wag2.ext x3, swg2.ext x3, xg2.then x3 (by simp; omega), by omega, fun q => by have := hp1 c1; omega, fun q => .inr (by omega), by omega, by omega, hR2⟩))
          cases hin : way.any (· == (i : Int)) with
          | false =>
            rw [if_neg (by simp [hin])] at hR
            try simp
            exact nxt0 _ (.inl rfl) _ g cs' st z (by simp [t0]) (by simp [t2]) (by simp [t4]) (by simp [t6]) (by simp [t8]) sg lc (fun d hd => by have := hc' d hd; omega) oe ov gz wz (by omega) oag wag swg xg hR
          | true =>
            rw [if_pos hin, hl3] at hR
            have hix := ixs_made (b := bn) (k := cs'.length) (c := cs'.length) (z := 1) (i := i) hl1
            rw [Nat.mul_one] at hix
            have hce : (cs'.map countV)[i]? = some (I c) := by rw [List.getElem?_map, hl2]; simp [countV]
            have hce' := hce
            rw [List.getElem?_map] at hce'
            have sg1 := sg.s.1
            have sg2 := sg.n.1
            simp [t0, sg1, t4, oe', hix, sg2, hce', wc]
            refine Tells.st1E sg.n (by rfl) (by rfl) (by simpa using hl1) fun g1 n1 x1 => ?_
            rw [set_count] at n1
            have nb1 : be ≠ bs := by omega
            have nb2 : be ≠ bm := by omega
            have nb3 : be ≠ bn := by omega
            have os1 := sg.s.ext x1 (by simpa using sg.sn)
            have om1 := sg.m.ext x1 (by simpa using sg.mn)
            have oe1 := oe.ext x1 (by simpa using nb3)
            have ov1 := ov.ext x1 (by simp; omega)
            have gz1 := gz.ext x1 (fun b hb q => by simp at q; subst q; exact gz.1.ob sg.n hb)
            have X1 := xg.trans x1
            have oe1' := oe1.1
            simp only [evC] at oe1'
            have hmax : max 0 ((c : Int) + 1) = (c : Int) + 1 := by omega
            have hl1' : i < (cs'.set i ((c : Int) + 1)).length := by simpa using hl1
            have hce2 : ((cs'.set i ((c : Int) + 1)).map countV)[i]? = some (I ((c : Int) + 1)) := by rw [List.getElem?_map, List.getElem?_set]; simp [hl1, countV, hmax]
            have hce2' := hce2
            rw [List.getElem?_map] at hce2'
            have os1' := os1.1
            have n1' := n1.1
            simp [t0, os1', t4, oe1', hix, n1', hl1, countV, bldR, fillR, splice, hmax]
            refine Tells.app1WE gz1 (wz.ext x1) (by rfl) (by rfl) (show pairR.rep g1 [I (i : Int), I ((c : Int) + 1)] ((i : Int), (c : Int) + 1) from rfl) (by rfl) (by rfl) (by omega) (by decide) X1.next fun z2 g2 gz2 w2 x2 y2 q2 => ?_
            have X2 := y2 _ X1
            have oe2 := oe1.ext x2 (gz1.1.ob oe1)
            try simp [t4]
            refine Tells.st1E oe2 gz2.1.cells gz2.1.one (by simp [evC]) fun g3 oe3 x3 => ?_
            have oe3 : Ob g3 be (evC { x with p := (i : Int) } va' z2) := by simpa [evC] using oe3
            have n2 := n1.ext x2 (gz1.1.ob n1)
            have os2 := os1.ext x2 (gz1.1.ob os1)
            have om2 := om1.ext x2 (gz1.1.ob om1)
            have ov2 := ov1.ext x2 (gz1.1.ob ov1)
            have ln : (cs'.set i ((c : Int) + 1)).length = cs'.length := by simp
            refine nxt0 _ (by first | exact .inl rfl | exact .inr rfl) _ g3 (cs'.set i ((c : Int) + 1)) (st ++ [((i : Int), (c : Int) + 1)]) z2 (by simp [t0]) (by simp [t2]) (by simp [t4]) (by simp [t6]) (by simp [t8]) ⟨by rw [ln]; exact os2.ext x3 (by simpa using Ne.symm nb1), by rw [set_mine hl2]; exact om2.ext x3 (by simpa using Ne.symm nb2), n2.ext x3 (by simpa using Ne.symm nb3), sg.sm, sg.sn, sg.mn⟩ (by rw [ln]; exact lc) (fun d hd => ?_) oe3 (ov2.ext x3 (by simpa using Ne.symm hev)) (gz2.ext x3 (fun b hb q => by simp at q; subst q; exact gz2.1.ob oe2 hb)) (w2.ext x3) (by simp; omega) (((oag.ext x1).ext x2).ext x3) (((wag.ext x1).ext x2).ext x3) (((swg.ext x1).ext x2).ext x3) (X2.then x3 (by simp; omega)) (by simpa using hR)
            rcases List.mem_or_eq_of_mem_set hd with q | q
            · have := hc' d q; omega
            · subst q; omega
      · simp [t4, oe', t8, c1]
        exact Tells.ok (stop _ (fun q => c1 q.1) (by simp [t4]) (by simp [t6]) (by simp [t8]))
    · rintro ⟨ex, t⟩ g ⟨z, rfl, t4, t6, t8, sg, oe, ov, gz, wz, oag, wag, xg⟩
      simp only at t4 t6 t8
      have oe' := oe.1
      simp only [evC] at oe'
      simp [J_seq_Seq_Pass_1, t4, oe', t8, t6]
      refine Tells.stNE ov (ds := evC { x with p := R.2.1 } va' z) (by rfl) (by rfl) (by simp [evC, oag.one, gz.1.one]) (by rfl) fun h9 o9 x9 => ?_
      have oe9 := (oe.ext x9 (by simpa using hev)).1
      have o9' := o9.1
      simp only [evC] at oe9 o9'
      simp [oe9, C_seq_Seq_Pass_0, o9']
      refine Tells.ok (hQ _ _ ⟨va', z, ?_, oag.ext x9, gz.1.ext x9, wag.ext x9, wz.ext x9, sg.ext x9 (by simp; omega) (by simp; omega) (by simp; omega), xg.then x9 (by simp; omega)⟩)
      simp [thruF, h0, evC, hL]
end
end Go.Proofs.Ytbkfamdkdjajjaa

/-! What stays while a row is written in place; precentorref14's Seq. -/
namespace Go.Proofs.Ytbkfamdkdjajjaa
open Go.Ab

/-- From h to h' of what was there only the class of rv was written. -/
structure Kp (rv : AVal) (h h' : Heap) : Prop where
  next : h.next ≤ h'.next
  n0 : h'.n0 = h.n0
  cls : ∀ b, b < h.next → h'.cls b = h.cls b
  ob : ∀ b cs, Ob h b cs → Ob h' b cs
  row : ∀ (α : Type) (r : Rp α), (∀ {h h' cs x}, r.rep h cs x → r.rep h' cs x) → ∀ v xs, Sl r h v xs → (∀ c, c ∈ v.blks → ¬ h.isRoot rv (h.root c)) → Sl r h' v xs
  ext : ∀ S h0, Ext S h0 h → (∀ b, b ∈ rv.blks → h0.next ≤ h.root b) → Ext S h0 h'
  feed : ∀ bf k, Feed h bf k → Feed h' bf k
theorem Kp.refl (rv : AVal) (h : Heap) : Kp rv h h := ⟨Nat.le_refl _, rfl, fun _ _ => rfl, fun _ _ o => o, fun _ _ _ _ _ o _ => o, fun _ _ x _ => x, fun _ _ f => f⟩
theorem Kp.root {rv : AVal} {h h' : Heap} (k : Kp rv h h') {b : Nat} (hb : b < h.next) : h'.root b = h.root b := by unfold Heap.root; rw [k.cls b hb]
theorem Kp.e {rv : AVal} {h g g' : Heap} {S : List Nat} (k : Kp rv h g) (x : Ext S g g') (hs : ∀ s, s ∈ S → h.next ≤ s) : Kp rv h g' := by
  refine ⟨Nat.le_trans k.next x.next, x.n0.trans k.n0, fun b hb => by rw [x.cls b (Nat.lt_of_lt_of_le hb k.next), k.cls b hb], fun b cs o => (k.ob b cs o).ext x fun q => ?_, fun α r fl v xs o a => (k.row α r fl v xs o a).ext x, fun S0 h0 y a => (k.ext S0 h0 y a).then x fun w hw => .inr ?_, fun bf n f => (k.feed bf n f).ext x fun q => ?_⟩
  · have := o.lt; have := hs b q; omega
  · have := y.next; have := hs w hw; omega
  · have := f.lt; have := hs bf q; omega
theorem Kp.poke {rv : AVal} {h g g' : Heap} {b : Nat} (k : Kp rv h g) (x : ExtC b g g') (hb : rv.blks = [b]) (hl : b < h.next) (hm : g.isM b = false) (hn : g.n0 ≤ b) : Kp rv h g' := by
  refine ⟨by rw [x.next]; exact k.next, x.n0.trans k.n0, fun c hc => by rw [x.cls, k.cls c hc], fun c cs o => (k.ob c cs o).extC x hm, fun α r fl v xs o a => (k.row α r fl v xs o a).extC fl x (Apart.of fun c hc q => ?_), fun S0 h0 y a => (k.ext S0 h0 y a).extC x ?_, fun bf n f => (k.feed bf n f).extCX x hm hn⟩
  · have hcl := (o.blk c hc).2
    refine a c hc ⟨b, by rw [hb]; simp, ?_⟩
    rw [← k.root hl, ← k.root hcl]
    exact q
  · rw [k.root hl]
    exact a b (by rw [hb]; simp)
theorem Kp.wr {rv : AVal} {h0 h h' : Heap} (k : Kp rv h h') {v : AVal} (w : Wr h0 h v) : Wr h0 h' v := fun b hb => by
  obtain ⟨w1, w2, w3⟩ := w b hb
  exact ⟨by rw [k.root w3]; exact w1, by rw [k.n0]; exact w2, Nat.lt_of_lt_of_le w3 k.next⟩

section
variable {X : XTab}

theorem ref_SeqCount (hX : OnlyKnown X) {h : Heap} {bd : Nat} {rv : AVal} {cs : List Int} (od : Ob h bd [rv]) (sr : Sl intR h rv cs) (p : Int) :
    Tells (fun q => acallX Try.prog X q F_precentorref14_Seq_Count [.ptr bd 0, I p] h) fun a h' => a = I (if ownC cs p = true then cntC cs p else 0) ∧ h' = h := by
  refine R_precentorref14_Seq_Count _ _ (hX _ _ rfl) ?_
  refine Tells.prot fun Q' hQ => ?_
  unfold S_precentorref14_Seq_Count
  by_cases c1 : p < 0
  · simp [c1]
    exact Tells.ok (hQ _ _ ⟨by rw [ownC_neg c1]; rfl, rfl⟩)
  · by_cases c2 : (cs.length : Int) ≤ p
    · simp [c1, od.1, sr.len, c2]
      refine Tells.ok (hQ _ _ ⟨?_, rfl⟩)
      have : ownC cs p = false := by simp [ownC]; intro q; omega
      rw [this]; rfl
    · obtain ⟨i, rfl⟩ : ∃ n : Nat, p = n := ⟨p.toNat, by omega⟩
      obtain ⟨c, hc⟩ : ∃ c, cs[i]? = some c := ⟨_, List.getElem?_eq_getElem (by omega)⟩
      obtain ⟨b1, p1, B1, j1, j2, j3⟩ := sr.atI hc
      have hc2 := (List.getElem?_eq_some_iff.1 hc).2
      simp [c1, od.1, sr.len, c2, J_precentorref14_Seq_Count_0, j1, j2, j3]
      refine Tells.ok (hQ _ _ ⟨?_, rfl⟩)
      have e1 : cntC cs i = c := by simp [cntC, hc]
      have e2 : ownC cs i = decide (0 ≤ c) := by
        have : i < cs.length := by omega
        simp [ownC, e1, this]
      rw [e1, e2]
      congr 1
      by_cases c3 : 0 < c
      · rw [if_pos c3, if_pos (by simp; omega)]
      · rw [if_neg c3]
        split
        · rename_i h; simp at h; omega
        · rfl

theorem ref_NewSeq (hX : OnlyKnown X) {h : Heap} {v : AVal} {ats : List (Int × Int × Int)} (o : Sl atR h v ats) (hl : ats.length ≤ 4000) (b : Int) :
    Tells (fun q => acallX Try.prog X q F_precentorref14_NewSeq [v, I b] h) fun a h' => ∃ bd rv, a = .ptr bd 0 ∧ Ob h' bd [rv] ∧ h.next ≤ bd ∧ Sl intR h' rv (newC ats b) ∧ Wr h h' rv ∧ Ext [] h h' := by
  refine R_precentorref14_NewSeq _ _ (hX _ _ rfl) ?_
  refine Tells.prot fun Q' hQ => ?_
  unfold S_precentorref14_NewSeq
  simp [bldR, fillR, splice]
  refine Tells.box rfl rfl fun h1 bd od x1 l1 => ?_
  try simp
  refine Tells.bind (Tells.loop (fun n t g => ∃ (i : Nat) (rv : AVal), t 0 = v ∧ t 1 = I b ∧ t 5 = .ptr bd 0 ∧ t 6 = I i ∧ i + n = ats.length ∧ Ob g bd [rv] ∧ Gl intR h g rv (newC (ats.take i) b) ∧ Wr h g rv ∧ Ext [] h g)
    (Q := fun p g => p.1 = .exit 0 ∧ p.2 5 = .ptr bd 0 ∧ ∃ rv, Ob g bd [rv] ∧ Sl intR g rv (newC ats b) ∧ Wr h g rv ∧ Ext [] h g) ?_ ats.length _ _ ⟨0, .nils, by simp, by simp, by simp, by simp, by omega, by simpa using od, by simpa [newC] using Gl.nil, fun b hb => by simp [AVal.blks] at hb, x1⟩) ?_
  · rintro n t g ⟨i, rv, t0, t1, t5, t6, hi, od, gr, wr, xg⟩
    refine Tells.prot fun Q2 hQ2 => ?_
    unfold L_precentorref14_NewSeq_1
    have og := o.ext xg
    simp [t6, t0, og.len]
    refine Tells.cb (fun hc => ?_) (fun hc => ?_)
    · simp at hc
      obtain ⟨a, ha⟩ : ∃ a, ats[i]? = some a := ⟨_, List.getElem?_eq_getElem hc⟩
      obtain ⟨bb, p, B, q1, q2, q3, q4, q5, q6, q7⟩ := at_at og ha
      have wi : IntKind.i64.wrap ((i : Int) + 1) = i + 1 := wrap_id (by omega) (by omega)
      have lt : (newC (ats.take i) b).length = i := by simp [newC]; omega
      have tk : newC (ats.take (i + 1)) b = newC (ats.take i) b ++ [if a.2.2 = b then 0 else -1] := by
        rw [List.take_add_one, ha]; simp [newC]
      have go : ∀ (y : Int) (t2 : T), y = (if a.2.2 = b then 0 else -1) → t2 0 = v → t2 1 = I b → t2 5 = .ptr bd 0 → t2 6 = I i → t2 7 = I y → Tells (fun m => J_precentorref14_NewSeq_4 Try.prog (acallX Try.prog X m) m (blkK 1 (sqK (J_precentorref14_NewSeq_3 Try.prog (acallX Try.prog X m) m okK) okK)) t2 g) Q2 := by
        intro y t2 hy a0 a1 a5 a6 a7
        simp [J_precentorref14_NewSeq_4, a5, od.1, a7]
        refine Tells.app1W gr wr (by rfl) (by rfl) (show intR.rep g [I y] y from rfl) (by rfl) (by rfl) (by rw [lt]; omega) (by decide) xg.next fun s2 g2 gr2 wr2 x2 y2 q2 => ?_
        have od2 := od.ext x2 (gr.1.ob od)
        refine Tells.st1 od2 gr2.1.cells gr2.1.one (by simp) fun g3 od3 x3 => ?_
        simp [J_precentorref14_NewSeq_3, a6, wi]
        have hbd : h.next ≤ bd := by omega
        refine Tells.ok (hQ2 _ _ (.inl ⟨rfl, n - 1, by omega, i + 1, s2, by simp [a0], by simp [a1], by simp [a5], by simp, by omega, by simpa using od3, by rw [tk, ← hy]; exact gr2.ext x3 (fun c hc q => by simp at q; subst q; exact gr2.1.ob od2 hc), wr2.ext x3, (y2 [] xg).then x3 (by simp; omega)⟩))
      by_cases e : a.2.2 = b
      · simp [J_precentorref14_NewSeq_2, t0, t1, t6, q1, q2, q5, e]
        exact go 0 _ (by simp [e]) (by simp [t0]) (by simp [t1]) (by simp [t5]) (by simp [t6]) (by simp)
      · simp [J_precentorref14_NewSeq_2, t0, t1, t6, q1, q2, q5, beq_eq_false_iff_ne.2 e]
        exact go (-1) _ (by simp [e]) (by simp [t0]) (by simp [t1]) (by simp [t5]) (by simp [t6]) (by simp)
    · simp at hc
      rw [List.take_of_length_le (by omega)] at gr
      exact Tells.ok (hQ2 _ _ (.inr ⟨by simp, rfl, by simp [t5], rv, od, gr.1, wr, xg⟩))
  · rintro ⟨ex, t⟩ g ⟨rfl, t5, rv, od, sr, wr, xg⟩
    simp only at t5
    simp [J_precentorref14_NewSeq_0, t5]
    exact Tells.ok (hQ _ _ ⟨bd, rv, rfl, od, by omega, sr, wr, xg⟩)

theorem ref_SeqPass (hX : OnlyKnown X) {h : Heap} {bd : Nat} {rv : AVal} {cs way : List Int} {va vs w : AVal} {x : Ev} (od : Ob h bd [rv]) (sr : Sl intR h rv cs) (wn : ∀ b, b ∈ rv.blks → h.n0 ≤ b) (hcs : cs.length ≤ 4000) (hb : ∀ c, c ∈ cs → c ≤ 2 ^ 40) (sw : Sl intR h w way) (aw : ∀ c, c ∈ w.blks → ¬ h.isRoot rv (h.root c)) (hw : way.length ≤ 4000) (hlw : -1 ≤ lastW way ∧ lastW way ≤ 5000) (hp : -5 ≤ x.p ∧ x.p ≤ 5000)
    (oa : Sl attrR h va x.ats) (aa : ∀ c, c ∈ va.blks → ¬ h.isRoot rv (h.root c)) (os : Sl pairR h vs x.sts) (ls : x.sts.length ≤ 2 ^ 20) :
    Tells (fun q => acallX Try.prog X q F_precentorref14_Seq_Pass [.ptr bd 0, .agg (evC x va vs), w] h) fun a h' => ∃ z, a = .tup [.agg (evC { x with p := (passF way cs x.p x.sts).2.1, sts := (passF way cs x.p x.sts).2.2 } va z), .bool (thruF way (passF way cs x.p x.sts).2.1)] ∧
      Sl attrR h' va x.ats ∧ Sl pairR h' z (passF way cs x.p x.sts).2.2 ∧ Ob h' bd [rv] ∧ Sl intR h' rv (passF way cs x.p x.sts).1 ∧ Kp rv h h' := by
  refine R_precentorref14_Seq_Pass _ _ _ (hX _ _ rfl) ?_
  refine Tells.prot fun Q' hQ => ?_
  have kd := od.lt
  have rlt := fun b hb => (sr.blk b hb).2
  unfold S_precentorref14_Seq_Pass
  try simp
  refine Tells.box (cs := evC x va vs) (by simp [evC, AVal.known, oa.known, os.known]) (by simp [evC, AVal.cells]) fun h1 be oe x1 l1 => ?_
  try simp
  refine Tells.new fun h2 bv ov x2 l2 => ?_
  have m1 := x1.next
  have m2 := x2.next
  have oe2 := oe.e x2
  have hev : be ≠ bv := by have := oe.lt; omega
  have x02 := x1.trans x2
  have sw2 := sw.ext x02
  -- with the last place of the way
  have main : ∀ (t : T), t 0 = .ptr bd 0 → t 2 = w → t 4 = .ptr be 0 → t 6 = .ptr bv 0 → t 8 = I (lastW way) → Tells (fun m => J_precentorref14_Seq_Pass_0 Try.prog (acallX Try.prog X m) m (retK Try.prog [.cell 6 30, .tmp 7]) t h2) Q' := by
    intro t t0 t2 t4 t6 t8
    generalize hL : lastW way = last at *
    simp [J_precentorref14_Seq_Pass_0]
    refine Tells.litW (r := pairR) (xs := []) (css := []) (by rfl) trivial (by rfl) (by rfl) (by rfl) fun v8 h3 g3 w3 x3 => ?_
    have oe3 := oe2.e x3
    have ov3 := ov.e x3
    have oe3' := oe3.1
    simp only [evC] at oe3'
    simp [t4, oe3']
    refine Tells.appNW g3 w3 ((os.ext x02).ext x3) (by rfl) (by simp; omega) (by decide) x3.next fun z h4 gz wz x4 y4 _ => ?_
    have X3 := x02.trans x3
    have nb3 : ∀ c, c ∈ v8.blks → h2.next ≤ h3.root c := fun c hc => (w3 c hc).1
    have X4 : Ext [] h h4 := X3.then x4 fun c hc => .inr (by have := nb3 c hc; have := root_le h3 c; omega)
    have oe4 := oe3.ext x4 (g3.1.ob oe3)
    have ov4 := ov3.ext x4 (g3.1.ob ov3)
    try simp [t4]
    refine Tells.st1 oe4 gz.1.cells gz.1.one (by simp [evC]) fun h5 oe5 x5 => ?_
    have oe5 : Ob h5 be (evC x va z) := by simpa [evC] using oe5
    have ov5 := ov4.ext x5 (by simpa using Ne.symm hev)
    have X5 : Ext [] h h5 := X4.then x5 (by simp; omega)
    have gz5 : Gl pairR h h5 z x.sts := by
      have := (gz.ext x5 (fun b hb q => by simp at q; subst q; exact gz.1.ob oe4 hb)).back x02.next
      simpa using this
    have wz5 : Wr h h5 z := (wz.ext x5).back x02.next
    have od5 := od.e X5
    have sr5 := sr.ext X5
    have kp5 : Kp rv h h5 := (Kp.refl rv h).e X5 (by simp)
    have hR : passF way cs x.p x.sts = psF way last (last + 1 - x.p).toNat cs x.p x.sts := by unfold passF; rw [hL]
    rw [hR] at hQ
    generalize hRR : psF way last (last + 1 - x.p).toNat cs x.p x.sts = R at hQ
    generalize hN : (last + 1 - x.p).toNat = N0 at hRR
    have hN0 : N0 ≤ 6000 := by omega
    refine Tells.bind (Tells.loop (fun n t g => ∃ (cs' : List Int) (p : Int) (st : List (Int × Int)) (z : AVal), t 0 = .ptr bd 0 ∧ t 2 = w ∧ t 4 = .ptr be 0 ∧ t 6 = .ptr bv 0 ∧ t 8 = I last ∧ Ob g bd [rv] ∧ Sl intR g rv cs' ∧ cs'.length = cs.length ∧ (∀ c, c ∈ cs' → c + n ≤ 2 ^ 40 + N0) ∧ Ob g be (evC { x with p := p } va z) ∧ Ob g bv [I 0, I 0, I 0, I 0, I 0, .nils, .nils] ∧ Gl pairR h g z st ∧ Wr h g z ∧ st.length + n ≤ 2 ^ 20 + N0 ∧ Sl attrR g va x.ats ∧ Sl intR g w way ∧ Kp rv h g ∧ n ≤ N0 ∧ (p ≤ last → p + n = last + 1) ∧ -5 ≤ p ∧ p ≤ 5001 ∧ psF way last n cs' p st = R)
      (Q := fun q g => ∃ z, q.1 = .exit 0 ∧ q.2 2 = w ∧ q.2 4 = .ptr be 0 ∧ q.2 6 = .ptr bv 0 ∧ q.2 8 = I last ∧ Ob g bd [rv] ∧ Sl intR g rv R.1 ∧ Ob g be (evC { x with p := R.2.1 } va z) ∧ Ob g bv [I 0, I 0, I 0, I 0, I 0, .nils, .nils] ∧ Gl pairR h g z R.2.2 ∧ Sl attrR g va x.ats ∧ Sl intR g w way ∧ Kp rv h g) ?_ N0 _ _ ⟨cs, x.p, x.sts, z, by simp [t0], by simp [t2], by simp [t4], by simp [t6], by simp [t8], od5, sr5, rfl, fun c hc => by have := hb c hc; omega, by simpa [evC] using oe5, ov5, gz5, wz5, by omega, oa.ext X5, sw.ext X5, kp5, Nat.le_refl _, fun q => by omega, by omega, by omega, hRR⟩) ?_
    · rintro n t g ⟨cs', p, st, z, t0, t2, t4, t6, t8, odg, srg, lc, hc', oe, ov, gz, wz, lst, oag, swg, kp, hn, hp1, pl, ph, hR⟩
      refine Tells.prot fun Q2 hQ2 => ?_
      have oe' := oe.1
      simp only [evC] at oe'
      have stop : ∀ t2' : T, ¬ (p ≤ last ∧ ownC cs' p = true) → t2' 2 = w → t2' 4 = .ptr be 0 → t2' 6 = .ptr bv 0 → t2' 8 = I last → Q2 (.exit 0, t2') g := by
        intro t2' hno a2 a4 a6 a8
        rw [psF_stop hno] at hR
        subst hR
        exact hQ2 _ _ (.inr ⟨by simp, z, rfl, a2, a4, a6, a8, odg, srg, oe, ov, gz, oag, swg, kp⟩)
      unfold L_precentorref14_Seq_Pass_2
      by_cases q0 : 0 ≤ p
      · obtain ⟨i, rfl⟩ : ∃ n : Nat, p = n := ⟨p.toNat, by omega⟩
        by_cases q1 : i < cs'.length
        · have q1' : (i : Int) < cs'.length := by omega
          by_cases q2 : (i : Int) ≤ last
          · obtain ⟨c, hc⟩ : ∃ c, cs'[i]? = some c := ⟨_, List.getElem?_eq_getElem q1⟩
            obtain ⟨b, p1, B, cc, k1, k2, k3, k4, k5, k6, k7⟩ := pokeC (r := intR) rfl (fun q => q) srg (fun b hb => by rw [kp.n0]; exact wn b hb) hc
            have k6 : cc = [I c] := k6
            subst k6
            have k40 := k5.cell0 (by simp)
            simp at k40
            have k4 : ixsR 1 rv (I (i : Int)) = some (.ptr b p1) := k4
            have e1 : cntC cs' i = c := by simp [cntC, hc]
            by_cases q3 : 0 ≤ c
            · have ho : ownC cs' i = true := by simp [ownC, e1, q1, q3]
              obtain ⟨c, rfl⟩ : ∃ n : Nat, c = n := ⟨c.toNat, by omega⟩
              obtain ⟨m, rfl⟩ : ∃ m, n = m + 1 := ⟨n - 1, by have := hp1 q2; omega⟩
              rw [psF_go ⟨q2, ho⟩, e1] at hR
              have wi : IntKind.i64.wrap ((i : Int) + 1) = i + 1 := wrap_id (by omega) (by omega)
              have hcb := hc' _ (List.mem_of_getElem? hc)
              have wc : IntKind.i64.wrap ((c : Int) + 1) = c + 1 := wrap_id (by omega) (by omega)
              simp [t4, oe', t0, odg.1, srg.len, q1, q1', t8, q2, k4, k5.get, k40, J_precentorref14_Seq_Pass_3, t2]
              have nxt0 : ∀ (kk : Kn (Ex × T)), (kk = okK ∨ kk = blkK 1 okK) → ∀ (t2' : T) (g2 : Heap) (cs2 : List Int) (st2 : List (Int × Int)) (z2 : AVal), t2' 0 = .ptr bd 0 → t2' 2 = w → t2' 4 = .ptr be 0 → t2' 6 = .ptr bv 0 → t2' 8 = I last → Ob g2 bd [rv] → Sl intR g2 rv cs2 → cs2.length = cs.length → (∀ d, d ∈ cs2 → d + m ≤ 2 ^ 40 + N0) → Ob g2 be (evC { x with p := (i : Int) } va z2) → Ob g2 bv [I 0, I 0, I 0, I 0, I 0, .nils, .nils] → Gl pairR h g2 z2 st2 → Wr h g2 z2 → st2.length + m ≤ 2 ^ 20 + N0 → Sl attrR g2 va x.ats → Sl intR g2 w way → Kp rv h g2 → psF way last m cs2 ((i : Int) + 1) st2 = R →
                  Tells (fun m => J_precentorref14_Seq_Pass_4 Try.prog (acallX Try.prog X m) m kk t2' g2) Q2 := by
                intro kk hkk t2' g2 cs2 st2 z2 a0 a2 a4 a6 a8 odg2 srg2 lc2 hc2 oe2 ov2 gz2 wz2 lst2 oag2 swg2 kp2 hR2
                have oe2' := oe2.1
                simp only [evC] at oe2'
                have hkn : ∀ t h, kk .normal t h = okK .normal t h := by rcases hkk with rfl | rfl <;> intros <;> rfl
                simp [J_precentorref14_Seq_Pass_4, a4, oe2', wi, hkn]
                refine Tells.st1 oe2 (by rfl) (by rfl) (by simp [evC]) fun g3 oe3 x3 => ?_
                refine Tells.ok (hQ2 _ _ (.inl ⟨rfl, m, by omega, cs2, (i : Int) + 1, st2, z2, by simp [a0], by simp [a2], by simp [a4], by simp [a6], by simp [a8], odg2.ext x3 (by simp; omega), srg2.ext x3, lc2, hc2, by simpa [evC] using oe3, ov2.ext x3 (by simpa using Ne.symm hev), gz2.ext x3 (fun b hb q => by simp at q; subst q; exact gz2.1.ob oe2 hb), wz2.ext x3, lst2, oag2.ext x3, swg2.ext x3, kp2.e x3 (by simp; omega), by omega, fun q => by have := hp1 q2; omega, by omega, by omega, hR2⟩))
              refine Tells.bind (ref_In hX swg (by omega) (i : Int)) ?_
              rintro _ g ⟨rfl, rfl⟩
              cases hin : way.any (· == (i : Int)) with
              | false =>
                rw [if_neg (by simp [hin])] at hR
                try simp
                exact nxt0 _ (by first | exact .inl rfl | exact .inr rfl) _ g cs' st z (by simp [t0]) (by simp [t2]) (by simp [t4]) (by simp [t6]) (by simp [t8]) odg srg lc (fun d hd => by have := hc' d hd; omega) oe ov gz wz (by omega) oag swg kp hR
              | true =>
                rw [if_pos hin] at hR
                obtain ⟨g1, s1, x1', s3, _⟩ := k7 0 (I ((c : Int) + 1)) ((c : Int) + 1) (by decide) (by rfl) (by rfl) (by rfl)
                simp at s1
                simp [odg.1, oe', k4, k5.get, k40, wc, s1]
                have hbl : b < h.next := rlt b (by rw [k1]; simp)
                have hbn : g.n0 ≤ b := by rw [kp.n0]; exact wn b (by rw [k1]; simp)
                have kp1 : Kp rv h g1 := kp.poke x1' k1 hbl k2 hbn
                have apz : Apart g b z := Apart.of fun d hd e => by
                  have z1 := (wz d hd).1
                  have z2 := kp.root hbl
                  have := root_le h b
                  omega
                have gz1 : Gl pairR h g1 z st := gz.extC (fun q => q) x1' apz
                have wz1 : Wr h g1 z := fun d hd => by
                  obtain ⟨w1, w2, w3⟩ := wz d hd
                  exact ⟨by unfold Heap.root; rw [x1'.cls]; exact w1, by rw [x1'.n0]; exact w2, by rw [x1'.next]; exact w3⟩
                have od1 := odg.extC x1' k2
                have oe1 := oe.extC x1' k2
                have ov1 := ov.extC x1' k2
                have oe1' := oe1.1
                simp only [evC] at oe1'
                have apo : ∀ (u : AVal), (∀ d, d ∈ u.blks → d < h.next ∧ ¬ h.isRoot rv (h.root d)) → Apart g b u := fun u hu => Apart.of fun d hd e => by
                  obtain ⟨u1, u2⟩ := hu d hd
                  rw [kp.root u1, kp.root hbl] at e
                  exact u2 ⟨b, by rw [k1]; simp, e⟩
                have oa1 : Sl attrR g1 va x.ats := oag.extC (fun q => q) x1' (apo va fun d hd => ⟨(oa.blk d hd).2, aa d hd⟩)
                have sw1 : Sl intR g1 w way := swg.extC (fun q => q) x1' (apo w fun d hd => ⟨(sw.blk d hd).2, aw d hd⟩)
                obtain ⟨b', p1', B', j1, j2, j3⟩ := s3.atI (i := i) (x := (c : Int) + 1) (by rw [List.getElem?_set]; simp [q1])
                cases k4.symm.trans j1
                simp [od1.1, oe1', k4, j2, j3, bldR, fillR, splice]
                refine Tells.app1WE gz1 wz1 (by rfl) (by rfl) (show pairR.rep g1 [I (i : Int), I ((c : Int) + 1)] ((i : Int), (c : Int) + 1) from rfl) (by rfl) (by rfl) (by omega) (by decide) kp1.next fun z2 g2 gz2 w2 x2' y2 q2' => ?_
                have hz : ∀ d, d ∈ z.blks → h.next ≤ d := fun d hd => by have := (wz1 d hd).1; have := root_le g1 d; omega
                have kp2 : Kp rv h g2 := kp1.e x2' hz
                have oe2 := oe1.ext x2' (gz1.1.ob oe1)
                try simp [t4]
                refine Tells.st1E oe2 gz2.1.cells gz2.1.one (by simp [evC]) fun g3 oe3 x3' => ?_
                have oe3 : Ob g3 be (evC { x with p := (i : Int) } va z2) := by simpa [evC] using oe3
                have kp3 : Kp rv h g3 := kp2.e x3' (by simp; omega)
                refine nxt0 _ (by first | exact .inl rfl | exact .inr rfl) _ g3 (cs'.set i ((c : Int) + 1)) (st ++ [((i : Int), (c : Int) + 1)]) z2 (by simp [t0]) (by simp [t2]) (by simp [t4]) (by simp [t6]) (by simp [t8]) ((od1.ext x2' (gz1.1.ob od1)).ext x3' (by simp; omega)) ((s3.ext x2').ext x3') (by simp [lc]) (fun d hd => ?_) oe3 ((ov1.ext x2' (gz1.1.ob ov1)).ext x3' (by simpa using Ne.symm hev)) (gz2.ext x3' (fun b hb q => by simp at q; subst q; exact gz2.1.ob oe2 hb)) (w2.ext x3') (by simp; omega) ((oa1.ext x2').ext x3') ((sw1.ext x2').ext x3') kp3 (by simpa using hR)
                rcases List.mem_or_eq_of_mem_set hd with q | q
                · have := hc' d q; omega
                · subst q; omega
            · have ho : ownC cs' i = false := by simp [ownC, e1, q3]
              simp [t4, oe', t0, odg.1, srg.len, q1, q1', t8, q2, k4, k5.get, k40, q3]
              exact Tells.ok (stop _ (by simp [ho]) (by simp [t2]) (by simp [t4]) (by simp [t6]) (by simp [t8]))
          · simp [t4, oe', t0, odg.1, srg.len, q1, q1', t8, q2]
            exact Tells.ok (stop _ (fun q => q2 q.1) (by simp [t2]) (by simp [t4]) (by simp [t6]) (by simp [t8]))
        · have ho : ownC cs' i = false := by simp [ownC, q1]
          have q1' : ¬ (i : Int) < cs'.length := by omega
          simp [t4, oe', t0, odg.1, srg.len, q1, q1']
          exact Tells.ok (stop _ (by simp [ho]) (by simp [t2]) (by simp [t4]) (by simp [t6]) (by simp [t8]))
      · have ho := ownC_neg (cs := cs') (p := p) (by omega)
        simp [t4, oe', q0]
        exact Tells.ok (stop _ (by simp [ho]) (by simp [t2]) (by simp [t4]) (by simp [t6]) (by simp [t8]))
    · rintro ⟨ex, t⟩ g ⟨z, rfl, t2, t4, t6, t8, odg, srg, oe, ov, gz, oag, swg, kp⟩
      simp only at t2 t4 t6 t8
      have oe' := oe.1
      simp only [evC] at oe'
      simp [J_precentorref14_Seq_Pass_1, t2, t4, oe', t8, t6, swg.len]
      by_cases h0 : way.length = 0
      · have h0' : ((way.length : Int) == 0) = true := by simp [h0]
        have h1 : way = [] := List.eq_nil_of_length_eq_zero h0
        simp [h0']
        refine Tells.stNE ov (ds := evC { x with p := R.2.1 } va z) (by rfl) (by rfl) (by simp [evC, oag.one, gz.1.one]) (by rfl) fun h9 o9 x9 => ?_
        have o9' := o9.1
        have oe9 := (oe.ext x9 (by simpa using hev)).1
        simp only [evC] at o9' oe9
        simp [oe9, C_precentorref14_Seq_Pass_0, o9', h1]
        refine Tells.ok (hQ _ _ ⟨z, ?_, oag.ext x9, gz.1.ext x9, odg.ext x9 (by simp; omega), srg.ext x9, kp.e x9 (by simp; omega)⟩)
        simp [thruF, h1, evC]
      · have h0' : ((way.length : Int) == 0) = false := beq_eq_false_iff_ne.2 (by omega)
        have h1 : ¬ way = [] := fun q => h0 (by rw [q]; rfl)
        simp [h0', h1, oe']
        refine Tells.stNE ov (ds := evC { x with p := R.2.1 } va z) (by rfl) (by rfl) (by simp [evC, oag.one, gz.1.one]) (by rfl) fun h9 o9 x9 => ?_
        have o9' := o9.1
        have oe9 := (oe.ext x9 (by simpa using hev)).1
        simp only [evC] at o9' oe9
        simp [oe9, C_precentorref14_Seq_Pass_0, o9']
        refine Tells.ok (hQ _ _ ⟨z, ?_, oag.ext x9, gz.1.ext x9, odg.ext x9 (by simp; omega), srg.ext x9, kp.e x9 (by simp; omega)⟩)
        simp [thruF, h0, h1, evC, hL]
  simp [sw2.len]
  by_cases h0 : 0 < way.length
  · have h0' : (0 : Int) < way.length := by omega
    have hl := lastW_at h0
    have wl : IntKind.i64.wrap ((way.length : Int) - 1) = ((way.length - 1 : Nat) : Int) := by rw [wrap_id (by omega) (by omega)]; omega
    obtain ⟨b1, p1, B1, j1, j2, j3⟩ := sw2.atI hl
    simp [h0, h0', wl, j1, j2, j3]
    exact main _ (by simp) (by simp) (by simp) (by simp) (by simp)
  · have h0' : ¬ (0 : Int) < way.length := by omega
    have e : lastW way = -1 := by
      have : way = [] := List.eq_nil_of_length_eq_zero (by omega)
      rw [this]; rfl
    simp [h0, h0']
    exact main _ (by simp) (by simp) (by simp) (by simp) (by simp [e])
end
end Go.Proofs.Ytbkfamdkdjajjaa

/-! What precentorref1.SameEvent tells of two events that are alike but for their attributes. -/
namespace Go.Proofs.Ytbkfamdkdjajjaa
open Go.Ab
section
variable {X : XTab}
theorem ref_SameEvent (hX : OnlyKnown X) (hty : isTwo Try.prog 35 = true) {h : Heap} {x : Ev} {va vs wa ws : AVal} {m : List Att} (oa : Sl attrR h va x.ats) (os : Sl pairR h vs x.sts) (pa : Sl attrR h wa m) (ps : Sl pairR h ws x.sts)
    (l1 : x.ats.length < 2 ^ 60) (l2 : m.length < 2 ^ 60) (l3 : x.sts.length < 2 ^ 60) :
    Tells (fun q => acallX Try.prog X q F_precentorref1_SameEvent [.agg (evC x va vs), .agg (evC x wa ws)] h) fun a h' => a = .bool (sameA x.ats m) ∧ Ext [] h h' := by
  refine R_precentorref1_SameEvent _ _ (hX _ _ rfl) ?_
  refine Tells.prot fun Q' hQ => ?_
  unfold S_precentorref1_SameEvent
  try simp
  refine Tells.box (cs := evC x va vs) (by simp [evC, AVal.known, oa.known, os.known]) (by simp [evC, AVal.cells]) fun h1 b1 o1 x1 k1 => ?_
  try simp
  refine Tells.box (cs := evC x wa ws) (by simp [evC, AVal.known, pa.known, ps.known]) (by simp [evC, AVal.cells]) fun h2 b2 o2 x2 k2 => ?_
  have o12 := o1.e x2
  have e2 := x1.trans x2
  simp [o12.1, o2.1, evC, (os.ext e2).len, (ps.ext e2).len, J_precentorref1_SameEvent_0]
  refine Tells.bind (Tells.loop (fun n t g => ∃ i : Nat, t 2 = .ptr b1 0 ∧ t 3 = .ptr b2 0 ∧ t 5 = I i ∧ i + n = x.sts.length ∧ g = h2)
    (Q := fun p g => p.1 = .exit 0 ∧ p.2 2 = .ptr b1 0 ∧ p.2 3 = .ptr b2 0 ∧ g = h2) ?_ x.sts.length _ _ ?_) ?_
  · rintro n t g ⟨i, t2, t3, t5, hi, rfl⟩
    refine Tells.prot fun Q2 hQ2 => ?_
    unfold L_precentorref1_SameEvent_2
    simp [t2, t5, o12.1, evC, (os.ext e2).len]
    refine Tells.cb (fun hc => ?_) (fun hc => ?_)
    · simp at hc
      obtain ⟨⟨a, n'⟩, ha⟩ : ∃ d, x.sts[i]? = some d := ⟨_, List.getElem?_eq_getElem hc⟩
      obtain ⟨b, p, B, c, q1, q2, q3⟩ := (os.ext e2).at (n := 2) rfl (i := (i : Int)) (by omega) (by simpa using ha)
      obtain ⟨b', p', B', c', r1, r2, r3⟩ := (ps.ext e2).at (n := 2) rfl (i := (i : Int)) (by omega) (by simpa using ha)
      have q3 : c = [I a, I n'] := q3
      have r3 : c' = [I a, I n'] := r3
      have q5 := q2.get
      have q6 : p + 2 ≤ B.length := by have := q2.le; rw [q3] at this; exact this
      have q7 : (B.drop p).take 2 = [I a, I n'] := by have := q2.eq; rw [q3] at this; exact this
      have r5 := r2.get
      have r6 : p' + 2 ≤ B'.length := by have := r2.le; rw [r3] at this; exact this
      have r7 : (B'.drop p').take 2 = [I a, I n'] := by have := r2.eq; rw [r3] at this; exact this
      have w : IntKind.i64.wrap ((i : Int) + 1) = i + 1 := wrap_id (by omega) (by omega)
      have ne := fun u v => aBin_neq2 (P := Try.prog) hty u v a n' a n'
      simp only [beq_self_eq_true, Bool.and_self, Bool.not_true] at ne
      simp [J_precentorref1_SameEvent_3, t2, t3, t5, o12.1, o2.1, evC, q1, r1, q5, q6, q7, r5, r6, r7, ne, J_precentorref1_SameEvent_4, w]
      exact Tells.ok (hQ2 _ _ (.inl ⟨rfl, n - 1, by omega, i + 1, by simp [t2], by simp [t3], by simp, by omega, rfl⟩))
    · exact Tells.ok (hQ2 _ _ (.inr ⟨by simp, rfl, by simp [t2], by simp [t3], rfl⟩))
  · exact ⟨0, by simp, by simp, by simp, by omega, rfl⟩
  · rintro ⟨ex, t⟩ g ⟨rfl, t2, t3, rfl⟩
    simp only at t2 t3
    simp [J_precentorref1_SameEvent_1, t2, t3, o12.1, o2.1, evC]
    refine Tells.bind (ref_SameAttrs hX (oa.ext e2) (pa.ext e2) l1 l2) ?_
    rintro _ h3 ⟨rfl, x3⟩
    try simp
    exact Tells.ok (hQ _ _ ⟨rfl, e2.trans x3⟩)
end
end Go.Proofs.Ytbkfamdkdjajjaa

/-! The package's closed example; pointers beside nil. -/
namespace Go.Proofs.Ytbkfamdkdjajjaa
open Go.Ab

theorem known_X {X : XTab} {F : FuncId} (hk : X F [] = some (.bool true)) (h : Heap) : Tells (fun m => acallX Try.prog X m F [] h) fun a h' => a = .bool true ∧ h' = h :=
  ⟨.bool true, h, ⟨rfl, rfl⟩, 1, fun m hm => by
    obtain ⟨k, rfl⟩ : ∃ k, m = k + 1 := ⟨m - 1, by omega⟩
    simp only [acallX, hk]⟩
theorem ptr_nil {t e : TypeId} (hu : Try.prog.underlying t = some (.pointer e)) (o1 o2 : Operand) (b p : Nat) : aBin Try.prog .eql t o1 o2 (.ptr b p) .nilp = some (.bool false) := by
  simp only [aBin, AVal.toV, aNilCmp, hu, nilRes]
theorem ptr_nil' {t e : TypeId} (hu : Try.prog.underlying t = some (.pointer e)) (o1 o2 : Operand) (b p : Nat) : aBin Try.prog .neq t o1 o2 (.ptr b p) .nilp = some (.bool true) := by
  simp only [aBin, AVal.toV, aNilCmp, hu, nilRes]
end Go.Proofs.Ytbkfamdkdjajjaa

/-! Law SeqTells: the walk. -/
namespace Go.Proofs.Ytbkfamdkdjajjaa
open Go.Ab

theorem psF_len {way : List Int} {last : Int} : ∀ {k : Nat} {cs : List Int} {p : Int} {st : List (Int × Int)}, (psF way last k cs p st).1.length = cs.length
  | 0, cs, p, st => rfl
  | k + 1, cs, p, st => by
    unfold psF
    split
    · split
      · rw [psF_len]; simp
      · exact psF_len
    · rfl
theorem psF_le {way : List Int} {last : Int} {M : Int} : ∀ {k : Nat} {cs : List Int} {p : Int} {st : List (Int × Int)}, (∀ c, c ∈ cs → c ≤ M) → ∀ c, c ∈ (psF way last k cs p st).1 → c ≤ M + k
  | 0, cs, p, st, h, c, hc => by have := h c hc; omega
  | k + 1, cs, p, st, h, c, hc => by
    unfold psF at hc
    split at hc
    · rename_i ho
      split at hc
      · obtain ⟨i, d, rfl, hl, hd, hv⟩ := ownC_at ho.2
        have := psF_le (M := M + 1) (fun y hy => by
          rcases List.mem_or_eq_of_mem_set hy with q | q
          · have := h y q; omega
          · have := h _ (List.mem_of_getElem? hd); rw [hv] at q; omega) c hc
        omega
      · have := psF_le h c hc; omega
    · have := h c hc; omega
theorem psF_st {way : List Int} {last : Int} : ∀ {k : Nat} {cs : List Int} {p : Int} {st : List (Int × Int)}, (psF way last k cs p st).2.2.length ≤ st.length + k
  | 0, cs, p, st => by simp [psF]
  | k + 1, cs, p, st => by
    unfold psF
    split
    · split
      · have := psF_st (way := way) (last := last) (k := k) (cs := cs.set p.toNat (cntC cs p + 1)) (p := p + 1) (st := st ++ [(p, cntC cs p + 1)])
        simp at this; omega
      · have := psF_st (way := way) (last := last) (k := k) (cs := cs) (p := p + 1) (st := st); omega
    · simp
theorem walkF_last {m : List Int} {ats : List (Int × Int × Int)} (h : ats.length ≤ 4000) : -1 ≤ lastW (walkF m ats) ∧ lastW (walkF m ats) ≤ 5000 ∧ (walkF m ats).length ≤ 4000 := by
  have hl : (walkF m ats).length ≤ ats.length := walkN_len
  by_cases h0 : 0 < (walkF m ats).length
  · have h1 := List.mem_of_getElem? (lastW_at h0)
    have := walkN_mem h1
    omega
  · have : walkF m ats = [] := List.eq_nil_of_length_eq_zero (by omega)
    rw [this]
    simp [lastW]
theorem newC_le {ats : List (Int × Int × Int)} {b : Int} : ∀ c, c ∈ newC ats b → c ≤ 0 := fun c hc => by
  obtain ⟨a, _, rfl⟩ := List.mem_map.1 hc
  split <;> omega

/-- A row of whole numbers whose class began ahead of K. -/
def wyK (K : Nat) : Rp (List Int) := ⟨1, by decide, fun h cs x => ∃ v, cs = [v] ∧ Sl intR h v x ∧ ∀ c, c ∈ v.blks → h.root c < K, fun ⟨v, e, _⟩ => by rw [e]; rfl, fun ⟨v, e, o, _⟩ => by rw [e]; simp [o.one], fun ⟨v, e, o, z⟩ x => ⟨v, e, o.ext x, fun c hc => by rw [root_ext x (o.blk c hc).2]; exact z c hc⟩⟩
theorem wyK_of {h : Heap} {v : AVal} {ws : List (List Int)} (o : Sl wyR h v ws) : Sl (wyK h.next) h v ws := o.imp rfl fun cs x ⟨v, e, o⟩ => ⟨v, e, o, fun c hc => Nat.lt_of_le_of_lt (root_le h c) (o.blk c hc).2⟩
theorem wyK_at {K : Nat} {h : Heap} {v : AVal} {ws : List (List Int)} (o : Sl (wyK K) h v ws) {i : Nat} {w : List Int} (hw : ws[i]? = some w) :
    ∃ b p B wv, ixsR 1 v (.int .i64 (i : Int)) = some (.ptr b p) ∧ h.get b = some B ∧ B[p]? = some wv ∧ Sl intR h wv w ∧ ∀ c, c ∈ wv.blks → h.root c < K := by
  obtain ⟨b1, p1, B1, c1, q1, q2, wv, rfl, ow, z⟩ := o.at (n := 1) rfl (i := (i : Int)) (by omega) (by simpa using hw)
  exact ⟨b1, p1, B1, wv, q1, q2.get, q2.cell0 (by simp), ow, z⟩

section
variable {X : XTab}

theorem seqTells_ (hX : OnlyKnown X) (hk : X F_precentorlaw14_known [] = some (.bool true)) (hty : isTwo Try.prog 35 = true) {h : Heap} {v1 v2 : AVal} {xs1 xs2 : List Int} (r1 : RawInts h v1 xs1) (r2 : RawInts h v2 xs2) (br : Int) (hbr : In64 br) :
    Tells (fun m => acallX Try.prog X m F_precentorlaw14_SeqTells [v1, v2, I br] h) fun r _ => r = .bool true := by
  refine R_precentorlaw14_SeqTells _ _ _ (hX _ _ rfl) ?_
  refine Tells.prot fun Q' hQ => ?_
  unfold S_precentorlaw14_SeqTells
  simp [bldR, fillR, splice, r1.sl.known, r1.sl.cells]
  refine Tells.box rfl rfl fun h1 bf f1 x1 l1 => ?_
  have rr := r1.ext x1
  have fd : Feed h1 bf 0 := ⟨v1, 0, xs1, f1, by omega, by omega, rr.sl, rr.small, rr.old⟩
  try simp
  refine Tells.bind (made14 hX fd (by omega) (n := 4) (by omega)) ?_
  rintro _ h2 ⟨cv, dv, wv, pv, ys, ats, ws, rfl, hy, op, oc, od, ca, ow, lw, hw, x2, f2⟩
  have la := ca.n
  have rr2 := (r2.ext x1).ext x2
  have wl2 : IntKind.i64.wrap ((ys.length : Int) + 2) = (ys.length : Int) + 2 := wrap_id (by omega) (by omega)
  simp [extR, op.len, wl2]
  refine Tells.bind (Pick hX br ((ys.length : Int) + 2) ⟨by omega, by omega⟩ h2) ?_
  rintro _ h2 ⟨rfl, rfl⟩
  generalize pick br ((ys.length : Int) + 2) = bk
  try simp
  refine Tells.bind (seq_NewG hX oc la bk) ?_
  rintro _ h3 ⟨bs, bm, bn, rfl, sg, x3, lb1, lb2, lb3⟩
  try simp
  refine Tells.bind (ref_NewSeq hX (od.ext x3) la bk) ?_
  rintro _ h4 ⟨bd, rv, rfl, od4, lbd, sr, wr, x4⟩
  try simp
  refine Tells.bind (known_X hk h4) ?_
  rintro _ h4 ⟨rfl, rfl⟩
  have X24 := x3.trans x4
  have hbn3 := sg.n.lt
  have hbs3 := sg.s.lt
  have hbm3 := sg.m.lt
  have n3 := x3.next
  have n4 := x4.next
  simp [ptr_nil Try.underlying25, J_precentorlaw14_SeqTells_0]
  refine Tells.bind (Tells.loop (fun n t g => ∃ (i : Nat) (cs : List Int), t 1 = v2 ∧ t 7 = .ptr bf 0 ∧ t 8 = cv ∧ t 10 = wv ∧ t 12 = .ptr bs 0 ∧ t 13 = .ptr bd 0 ∧ t 14 = I i ∧ i + n = min xs2.length 12 ∧ SeqG g bs bm bn cs ∧ Ob g bd [rv] ∧ Sl intR g rv cs ∧ Wr h3 g rv ∧ cs.length = ats.length ∧ (∀ c, c ∈ cs → c ≤ 10000 * (i : Int)) ∧ Ext [bf] h2 g ∧ Feed g bf (3000 + 31 * i))
    (Q := fun p g => p.1 = .exit 0 ∧ ∃ cs, p.2 8 = cv ∧ p.2 12 = .ptr bs 0 ∧ p.2 13 = .ptr bd 0 ∧ SeqG g bs bm bn cs ∧ Ob g bd [rv] ∧ Sl intR g rv cs ∧ Sl atR g cv ats) ?_ (min xs2.length 12) _ _ ⟨0, newC ats bk, by simp, by simp, by simp, by simp, by simp, by simp, by simp, by omega, sg.e x4, od4, sr, wr, by simp [newC], fun c hc => by have := newC_le c hc; omega, X24.of, (f2.e X24).mono (by omega)⟩) ?_
  · rintro n t g ⟨i, cs, t1, t7, t8, t10, t12, t13, t14, hi, sg, od, sr, wr, lc, hc, xg, fg⟩
    refine Tells.prot fun Q2 hQ2 => ?_
    unfold L_precentorlaw14_SeqTells_6
    have rg := rr2.ext xg
    have out : ¬ i < min xs2.length 12 → ∀ t2 : T, t2 8 = cv → t2 12 = .ptr bs 0 → t2 13 = .ptr bd 0 → Q2 (.exit 0, t2) g := fun _ t2 a8 a12 a13 => hQ2 _ _ (.inr ⟨by simp, rfl, cs, a8, a12, a13, sg, od, sr, oc.ext xg⟩)
    by_cases c1 : i < xs2.length
    · have c1' : (i : Int) < xs2.length := by omega
      by_cases c2 : i < 12
      · have c2' : (i : Int) < 12 := by omega
        have wi : IntKind.i64.wrap ((i : Int) + 1) = i + 1 := wrap_id (by omega) (by omega)
        simp [t14, t1, rg.sl.len, c1, c1', c2, c2', J_precentorlaw14_SeqTells_7, t7]
        refine Tells.bind (EventH hX fg (by omega)) ?_
        rintro _ g1 ⟨x, va, vs, rfl, fe, ga, wa, gs, wvs, _, y1, d1⟩
        have k1 := y1.next
        try simp
        refine Tells.newSt (ds := evC x va vs) (by rfl) (by rfl) (by rfl) (by simp [evC, ga.1.one, gs.1.one]) fun g2 be oe y2 m2 => ?_
        have rg2 := (rg.ext y1).ext y2
        obtain ⟨a, ha⟩ : ∃ a, xs2[i]? = some a := ⟨_, List.getElem?_eq_getElem c1⟩
        obtain ⟨b1, p1, B1, j1, j2, j3⟩ := rg2.sl.atI ha
        have wl : IntKind.i64.wrap ((ats.length : Int) + 3) = (ats.length : Int) + 3 := wrap_id (by omega) (by omega)
        have oc2 := ((oc.ext xg).ext y1).ext y2
        simp [t1, t14, j1, j2, j3, t8, oc2.len, wl]
        refine Tells.bind (Pick hX a ((ats.length : Int) + 3) ⟨by omega, by omega⟩ g2) ?_
        rintro _ g2 ⟨rfl, rfl⟩
        have pk1 := pick_lo a ((ats.length : Int) + 3)
        have pk2 := pick_hi a ((ats.length : Int) + 3) (by omega)
        generalize pick a ((ats.length : Int) + 3) = at_ at pk1 pk2
        have wat : IntKind.i64.wrap (at_ - 1) = at_ - 1 := wrap_id (by omega) (by omega)
        simp [wat]
        refine Tells.st1 oe (by rfl) (by rfl) (by simp [evC]) fun g3 oe3 y3 => ?_
        have oe3 : Ob g3 be (evC { x with p := at_ - 1 } va vs) := by simpa [evC] using oe3
        have Y3 : Ext [bf] g g3 := (y1.trans y2.of).then y3 (by simp; omega)
        have X3 := xg.trans Y3
        obtain ⟨b1', p1', B1', j1', j2', j3'⟩ := (rg2.sl.ext y3).atI ha
        cases j1.symm.trans j1'
        have quo : aBin Try.prog .quo 3 (.tmp 75) (.const (.int .i64 32)) (I a) (I 32) = some (I (IntKind.i64.wrap (a.tdiv 32))) := aBin_quo _ _ _ _ _ _ _ (by decide)
        simp [j2', j3', quo]
        refine Tells.bind (Pick hX (IntKind.i64.wrap (a.tdiv 32)) 4 ⟨by decide, by decide⟩ g3) ?_
        rintro _ g3 ⟨rfl, rfl⟩
        have pj1 := pick_lo (IntKind.i64.wrap (a.tdiv 32)) 4
        have pj2 := pick_hi (IntKind.i64.wrap (a.tdiv 32)) 4 (by decide)
        generalize pick (IntKind.i64.wrap (a.tdiv 32)) 4 = jj at pj1 pj2
        obtain ⟨j, rfl⟩ : ∃ n : Nat, jj = n := ⟨jj.toNat, by omega⟩
        obtain ⟨way, hway⟩ : ∃ w, ws[j]? = some w := ⟨_, List.getElem?_eq_getElem (by omega)⟩
        obtain ⟨m, rfl⟩ := hw way (List.mem_of_getElem? hway)
        obtain ⟨lw1, lw2, lw3⟩ := walkF_last (m := m) la
        obtain ⟨b5, p5, B5, wv5, w1, w2, w3, sw, swK⟩ := wyK_at ((wyK_of ow).ext X3) hway
        have oe3' := oe3.1
        simp only [evC] at oe3'
        simp [t10, w1, w2, w3, oe3', t12]
        refine Tells.litV (r := intR) (xs := []) (css := []) (by rfl) trivial (by rfl) (by rfl) (by rfl) fun v6 g4 g4l y4 hv6 => ?_
        refine Tells.appNE g4l (sw.ext y4) (by rfl) (by simp; omega) (by decide) y4.next fun wv7 g5 g5l y5 z5 _ => ?_
        have oe4 := oe3.e y4
        have oe5 := oe4.ext y5 (g4l.1.ob oe4)
        have nl : be ≠ g3.next := by have := oe3.lt; omega
        have n5 := y4.next
        have n55 := y5.next
        have kl : g5.n0 ≤ g3.next := by rw [y5.n0, y4.n0]; exact n0_le g3
        have ke := oe5.kill kl nl
        simp only [evC] at ke
        have Z5 := z5 [] y4
        have W5 : Ext [bf] g g5 := Y3.trans Z5.of
        have hbs := sg.s.lt
        have hbm := sg.m.lt
        have hbn := sg.n.lt
        have hbf := fg.lt
        have n2 := x2.next
        have bf2 := f2.lt
        have sg5 : SeqG g5 bs bm bn cs := (((sg.ext y1 (by simp; omega) (by simp; omega) (by simp; omega)).e y2).ext y3 (by simp; omega) (by simp; omega) (by simp; omega)).e Z5
        have oa5 := ((ga.1.ext y2).ext y3).ext Z5
        have os5 := ((gs.1.ext y2).ext y3).ext Z5
        have sts5 := fe.sts
        have ats5 := fe.ats
        have sw5 : Sl intR g5 wv7 (walkF m ats) := by simpa using g5l.1
        simp [ke]
        refine Tells.cbE (seq_PassG hX (x := { x with p := at_ - 1 }) sg5 (by omega) (fun c h => by have := hc c h; omega) sw5 lw3 ⟨lw1, lw2⟩ ⟨by simp; omega, by simp; omega⟩ oa5 (by simp; omega) os5 (by simp; omega)) ?_
        rintro _ g6 ⟨va6, z6, rfl, oa6, os6, wa6, wz6, sg6, y6⟩
        simp only at oa6
        have n6 := y6.next
        have hpl := psF_len (way := walkF m ats) (last := lastW (walkF m ats)) (k := (lastW (walkF m ats) + 1 - (at_ - 1)).toNat) (cs := cs) (p := at_ - 1) (st := x.sts)
        have hpb := psF_le (way := walkF m ats) (last := lastW (walkF m ats)) (M := 10000 * (i : Int)) (k := (lastW (walkF m ats) + 1 - (at_ - 1)).toNat) (cs := cs) (p := at_ - 1) (st := x.sts) hc
        have hps := psF_st (way := walkF m ats) (last := lastW (walkF m ats)) (k := (lastW (walkF m ats) + 1 - (at_ - 1)).toNat) (cs := cs) (p := at_ - 1) (st := x.sts)
        generalize hR : passF (walkF m ats) cs (at_ - 1) x.sts = R at *
        change psF (walkF m ats) (lastW (walkF m ats)) (lastW (walkF m ats) + 1 - (at_ - 1)).toNat cs (at_ - 1) x.sts = R at hR
        rw [hR] at hpl hpb hps
        obtain ⟨cs', p', sts'⟩ := R
        simp only at hpl hpb hps os6 sg6
        simp [extR]
        refine Tells.newV fun h7 bx ox y7 m7 => ?_
        refine Tells.stNE ox (ds := evC { x with p := p', sts := sts' } va6 z6) (by rfl) (by rfl) (by simp [evC, oa6.one, os6.one]) (by rfl) fun h8 ox8 y8 => ?_
        have nbn : be ≠ bn := by omega
        have n7 := y7.next
        have hbe := oe5.lt
        have Y68 : Ext [] g6 h8 := (y7.then y8 (by simp; omega))
        have oe8 := (oe5.ext y6 (by simpa using nbn)).e Y68
        have oe8' := oe8.1
        simp only [evC] at oe8'
        have kbd := od.lt
        have od8 : Ob h8 bd [rv] := ((((((od.ext y1 (by simp; omega)).e y2).ext y3 (by simp; omega)).e Z5).ext y6 (by simp; omega)).e Y68)
        have T8 : Ext [bf, bn] g h8 := (W5.mono (by simp)).trans ((y6.mono (by simp)).trans (Y68.mono (by simp)))
        have sr8 := sr.ext T8
        have wr8 := wr.ext T8
        have rlt : ∀ b, b ∈ rv.blks → h8.root b < g.next := fun b hb => by
          have h1 := (wr b hb).2.2
          rw [root_ext T8 h1]
          exact Nat.lt_of_le_of_lt (root_le g b) h1
        have sw8 := ((sw.ext Z5).ext y6).ext Y68
        have aw8 : ∀ c, c ∈ wv5.blks → ¬ h8.isRoot rv (h8.root c) := fun c hcb ⟨b, hb, e⟩ => by
          have q1 := swK c hcb
          have q2 := (wr8 b hb).1
          rw [root_ext Y68 ((sw.ext Z5).ext y6 |>.blk c hcb).2, root_ext y6 ((sw.ext Z5).blk c hcb).2, root_ext Z5 (sw.blk c hcb).2] at e
          omega
        have nw : ∀ (v : AVal), Wr g h8 v → ∀ c, c ∈ v.blks → ¬ h8.isRoot rv (h8.root c) := fun v w c hcb ⟨b, hb, e⟩ => by
          have q1 := (w c hcb).1
          have q2 := rlt b hb
          omega
        have wa8 : Wr g h8 va := ((((wa.ext y2).ext y3).ext Z5).ext y6).ext Y68
        have oa8 := (oa5.ext y6).ext Y68
        have os8 := (os5.ext y6).ext Y68
        have wa68 : Wr g h8 va6 := (wa6.ext Y68).back (W5.next)
        have wz68 : Wr g h8 z6 := (wz6.ext Y68).back (W5.next)
        have oa68 := oa6.ext Y68
        have os68 := os6.ext Y68
        simp [oe8', t13]
        refine Tells.bind (ref_SeqPass hX (x := { x with p := at_ - 1 }) od8 sr8 (fun b hb => (wr8 b hb).2.1) (by omega) (fun c h => by have := hc c h; omega) sw8 aw8 lw3 ⟨lw1, lw2⟩ ⟨by simp; omega, by simp; omega⟩ oa8 (nw va wa8) os8 (by simp; omega)) ?_
        rintro _ h9 ⟨z9, rfl, oa9, os9, od9, sr9, kp⟩
        simp only at oa9
        rw [show passF (walkF m ats) cs (at_ - 1) x.sts = (cs', p', sts') from hR] at os9 sr9 ⊢
        simp only at os9 sr9
        simp
        refine Tells.newSt (ds := evC { x with p := p', sts := sts' } va z9) (by rfl) (by rfl) (by rfl) (by simp [evC, oa9.one, os9.one]) fun h10 by_ oy y10 m10 => ?_
        have ox10 := (kp.ob _ _ ox8).e y10
        have oe10 := (kp.ob _ _ oe8).e y10
        have ox10' := ox10.1
        have oe10' := oe10.1
        have oy' := oy.1
        simp only [evC] at ox10' oe10' oy'
        have oa10 := (kp.row _ attrR (fun q => q) _ _ oa68 (nw va6 wa68)).ext y10
        have os10 := (kp.row _ pairR (fun q => q) _ _ os68 (nw z6 wz68)).ext y10
        simp [ox10', oy']
        refine Tells.cbE (ref_SameEvent hX hty (x := { x with p := p', sts := sts' }) oa10 os10 (oa9.ext y10) (os9.ext y10) (by simp; omega) (by simp; omega) (by simp; omega)) ?_
        rintro _ h11 ⟨rfl, y11⟩
        simp only [sameA_self]
        have sg8 := sg6.e Y68
        have sg11 : SeqG h11 bs bm bn cs' := ((⟨kp.ob _ _ sg8.s, kp.ob _ _ sg8.m, kp.ob _ _ sg8.n, sg8.sm, sg8.sn, sg8.mn⟩ : SeqG h9 bs bm bn cs').e y10).e y11
        have oe11 := (oe10.e y11).1
        have od11 := (od9.e y10).e y11
        have sr11 := (sr9.ext y10).ext y11
        simp only [evC] at oe11
        simp [oe11]
        refine Tells.cbE (seq_CountG hX sg11 (at_ - 1)) ?_
        rintro _ h11 ⟨rfl, rfl⟩
        simp [oe11]
        refine Tells.cbE (ref_SeqCount hX od11 sr11 (at_ - 1)) ?_
        rintro _ h11 ⟨rfl, rfl⟩
        simp [J_precentorlaw14_SeqTells_8, t14, wi]
        have E8 : Ext [bf] h2 h8 := ((xg.trans W5).then y6 (by simp; omega)).trans Y68.of
        have E9 : Ext [bf] h2 h9 := kp.ext _ _ E8 fun b hb => by have := (wr8 b hb).1; omega
        have hn : n = (n - 1) + 1 := by omega
        refine Tells.ok (hQ2 _ _ (.inl ⟨rfl, n - 1, by omega, i + 1, cs', by simp [t1], by simp [t7], by simp [t8], by simp [t10], by simp [t12], by simp [t13], by simp, by omega, sg11, od11, sr11, ((kp.wr wr8).ext y10).ext y11, by omega, fun c hcc => by have := hpb c hcc; omega, (E9.trans y10.of).trans y11.of, ?_⟩))
        exact ((((kp.feed _ _ (((((d1.e y2).ext y3 (by simp; omega)).e Z5).ext y6 (by simp; omega)).e Y68)).e y10).e y11).mono (by omega))
      · have c2' : ¬ (i : Int) < 12 := by omega
        simp [t14, t1, rg.sl.len, c1, c1', c2, c2']
        exact Tells.ok (out (by omega) _ (by simp [t8]) (by simp [t12]) (by simp [t13]))
    · have c1' : ¬ (i : Int) < xs2.length := by omega
      simp [t14, t1, rg.sl.len, c1, c1']
      exact Tells.ok (out (by omega) _ (by simp [t8]) (by simp [t12]) (by simp [t13]))
  · rintro ⟨ex, t⟩ g ⟨rfl, cs, t8, t12, t13, sg, od, sr, ocg⟩
    simp only at t8 t12 t13
    simp [J_precentorlaw14_SeqTells_1]
    refine Tells.bind (Tells.loop (fun n t g' => g' = g ∧ ∃ i : Nat, t 8 = cv ∧ t 12 = .ptr bs 0 ∧ t 13 = .ptr bd 0 ∧ t 21 = I ((i : Int) - 1) ∧ i + n = ats.length + 2) (Q := fun p g => p.1 = .exit 2) ?_ (ats.length + 2) _ _ ⟨rfl, 0, by simp [t8], by simp [t12], by simp [t13], by simp, by omega⟩) ?_
    · rintro n t g' ⟨rfl, i, t8, t12, t13, t21, hi⟩
      refine Tells.prot fun Q2 hQ2 => ?_
      unfold L_precentorlaw14_SeqTells_3
      simp [t21, t8, ocg.len]
      refine Tells.cb (fun hc => ?_) (fun hc => ?_)
      · simp at hc
        have wi : IntKind.i64.wrap ((i : Int) - 1 + 1) = (i : Int) := by rw [wrap_id (by omega) (by omega)]; omega
        simp [J_precentorlaw14_SeqTells_4, t12, t13, t21]
        refine Tells.bind (seq_CountG hX sg ((i : Int) - 1)) ?_
        rintro _ g ⟨rfl, rfl⟩
        try simp [t13, t21]
        refine Tells.bind (ref_SeqCount hX od sr ((i : Int) - 1)) ?_
        rintro _ g ⟨rfl, rfl⟩
        have wi2 : IntKind.i64.wrap (i : Int) = (i : Int) := wrap_id (by omega) (by omega)
        simp [J_precentorlaw14_SeqTells_5, t21, wi, wi2]
        exact Tells.ok (hQ2 _ _ (.inl ⟨rfl, n - 1, by omega, rfl, i + 1, by simp [t8], by simp [t12], by simp [t13], by simp, by omega⟩))
      · exact Tells.ok (hQ2 _ _ (.inr ⟨by simp, rfl⟩))
    · rintro ⟨ex, t⟩ g rfl
      simp [J_precentorlaw14_SeqTells_2]
      exact Tells.ok (hQ _ _ rfl)
end
end Go.Proofs.Ytbkfamdkdjajjaa

/-! Law SeqNumbers: the plain law. An event that is walked from broker to broker along the chain. -/
namespace Go.Proofs.Ytbkfamdkdjajjaa
open Go.Ab

/-- The broker of a place. -/
def brk (ats : List (Int × Int × Int)) (i : Nat) : Int := (ats[i]?.map fun a => a.2.2).getD (-1)
/-- A broker's counts, when f are those of all places. -/
def cB (ats : List (Int × Int × Int)) (f : Nat → Int) (b : Int) : List Int := (List.range ats.length).map fun i => if brk ats i = b then f i else -1
theorem cB_len (ats : List (Int × Int × Int)) (f : Nat → Int) (b : Int) : (cB ats f b).length = ats.length := by simp [cB]
theorem cB_at {ats : List (Int × Int × Int)} {f : Nat → Int} {b : Int} {i : Nat} (h : i < ats.length) : (cB ats f b)[i]? = some (if brk ats i = b then f i else -1) := by simp [cB, h]
theorem cB_ext {l : List Int} {ats : List (Int × Int × Int)} {f : Nat → Int} {b : Int} (hl : l.length = ats.length) (h : ∀ i, i < ats.length → l[i]? = some (if brk ats i = b then f i else -1)) : l = cB ats f b := by
  apply List.ext_getElem?
  intro i
  by_cases hi : i < ats.length
  · rw [h i hi, cB_at hi]
  · rw [List.getElem?_eq_none (by omega), List.getElem?_eq_none (by rw [cB_len]; omega)]
theorem cB_new (ats : List (Int × Int × Int)) (b : Int) : newC ats b = cB ats (fun _ => 0) b := by
  refine cB_ext (by simp [newC]) fun i hi => ?_
  have e : ats[i]? = some ats[i] := List.getElem?_eq_getElem hi
  simp [newC, brk, e]
theorem cB_congr {ats : List (Int × Int × Int)} {f g : Nat → Int} {b : Int} (h : ∀ i, i < ats.length → brk ats i = b → f i = g i) : cB ats f b = cB ats g b := by
  refine cB_ext (cB_len _ _ _) fun i hi => ?_
  rw [cB_at hi]
  by_cases e : brk ats i = b
  · rw [if_pos e, if_pos e, h i hi e]
  · rw [if_neg e, if_neg e]
theorem cB_set {ats : List (Int × Int × Int)} {f g : Nat → Int} {b v : Int} {i : Nat} (hi : i < ats.length) (hb : brk ats i = b) (hg : ∀ j, g j = if j = i then v else f j) : (cB ats f b).set i v = cB ats g b := by
  refine cB_ext (by simp [cB_len]) fun j hj => ?_
  rw [List.getElem?_set]
  by_cases e : i = j
  · subst e
    rw [if_pos rfl, if_pos (by rw [cB_len]; exact hi), if_pos hb, hg, if_pos rfl]
  · rw [if_neg e, cB_at hj, hg, if_neg (Ne.symm e)]

/-- The counts when the event is at p. -/
def gf (w : List Int) (p : Int) (f : Nat → Int) : Nat → Int := fun i => f i + if (w.any (· == (i : Int)) && decide ((i : Int) < p)) = true then 1 else 0
/-- Its stamps. -/
def stF (w : List Int) (p : Int) (f : Nat → Int) : List (Int × Int) := (w.filter fun q => decide (q < p)).map fun q => (q, f q.toNat + 1)
theorem gf_nn {w : List Int} {p : Int} {f : Nat → Int} (hf : ∀ i, 0 ≤ f i) (i : Nat) : 0 ≤ gf w p f i := by
  have := hf i
  unfold gf
  split <;> omega
theorem gf_in {w : List Int} {p : Nat} {f : Nat → Int} (h : w.any (· == (p : Int)) = true) (j : Nat) : gf w ((p : Int) + 1) f j = if j = p then gf w p f p + 1 else gf w p f j := by
  unfold gf
  by_cases e : j = p
  · subst e
    rw [if_pos rfl, h]
    have h1 : ¬ ((j : Int) < j) := by omega
    have h2 : (j : Int) < (j : Int) + 1 := by omega
    simp [h1, h2]
  · rw [if_neg e]
    have : decide ((j : Int) < (p : Int) + 1) = decide ((j : Int) < p) := by
      rw [decide_eq_decide]; omega
    rw [this]
theorem gf_out {w : List Int} {p : Nat} {f : Nat → Int} (h : w.any (· == (p : Int)) = false) (j : Nat) : gf w ((p : Int) + 1) f j = gf w p f j := by
  unfold gf
  by_cases e : j = p
  · subst e; rw [h]; rfl
  · have : decide ((j : Int) < (p : Int) + 1) = decide ((j : Int) < p) := by
      rw [decide_eq_decide]; omega
    rw [this]
theorem filt_in {p : Int} : ∀ {w : List Int}, w.Pairwise (· < ·) → p ∈ w → (w.filter fun q => decide (q < p + 1)) = (w.filter fun q => decide (q < p)) ++ [p]
  | [], _, h => by simp at h
  | x :: w, hs, h => by
    cases hs with
    | cons h1 h2 =>
      rcases List.mem_cons.1 h with q | q
      · subst q
        have e1 : (w.filter fun q => decide (q < p + 1)) = [] := List.filter_eq_nil_iff.2 fun y hy => by have := h1 y hy; simp; omega
        have e2 : (w.filter fun q => decide (q < p)) = [] := List.filter_eq_nil_iff.2 fun y hy => by have := h1 y hy; simp; omega
        rw [List.filter_cons_of_pos (by simp; omega), List.filter_cons_of_neg (by simp), e1, e2]
        rfl
      · have hx := h1 p q
        rw [List.filter_cons_of_pos (by simp; omega), List.filter_cons_of_pos (by simpa using hx), filt_in h2 q]
        rfl
theorem any_mem {w : List Int} {p : Int} : w.any (· == p) = true ↔ p ∈ w := by simp
theorem stF_in {w : List Int} {p : Nat} {f : Nat → Int} (hs : w.Pairwise (· < ·)) (h : w.any (· == (p : Int)) = true) : stF w ((p : Int) + 1) f = stF w p f ++ [((p : Int), f p + 1)] := by
  unfold stF
  rw [filt_in hs (any_mem.1 h)]
  simp
theorem stF_out {w : List Int} {p : Nat} {f : Nat → Int} (h : w.any (· == (p : Int)) = false) : stF w ((p : Int) + 1) f = stF w p f := by
  unfold stF
  congr 1
  refine List.filter_congr fun q hq => ?_
  have : q ≠ p := fun e => by
    rw [List.any_eq_false] at h
    exact h q hq (by simp [e])
  rw [decide_eq_decide]; omega

/-- One broker leads it on. -/
theorem pass_law {ats : List (Int × Int × Int)} {w : List Int} {f : Nat → Int} {b last : Int} (hb0 : 0 ≤ b) (hf : ∀ i, 0 ≤ f i) (hs : w.Pairwise (· < ·)) (hL : last < ats.length) : ∀ (k p : Nat), (p : Int) + k = last + 1 →
    ∃ p' : Nat, p ≤ p' ∧ (p' : Int) ≤ last + 1 ∧ psF w last k (cB ats (gf w p f) b) p (stF w p f) = (cB ats (gf w p' f) b, (p' : Int), stF w p' f) ∧ ((p' : Int) ≤ last → brk ats p' ≠ b) ∧ ∀ i : Nat, p ≤ i → i < p' → brk ats i = b
  | 0, p, h => ⟨p, Nat.le_refl _, by omega, rfl, fun q => by omega, fun i h1 h2 => by omega⟩
  | k + 1, p, h => by
    have hp : (p : Int) ≤ last := by omega
    have hpl : p < ats.length := by omega
    have hcn : cntC (cB ats (gf w p f) b) p = if brk ats p = b then gf w p f p else -1 := by simp only [cntC, Int.toNat_natCast, cB_at hpl, Option.getD_some]
    by_cases hb : brk ats p = b
    · rw [if_pos hb] at hcn
      have ho : ownC (cB ats (gf w p f) b) p = true := by
        have := gf_nn (w := w) (p := p) hf p
        simp only [ownC, hcn, cB_len]
        simp [hpl, this]
      rw [psF_go ⟨hp, ho⟩, hcn]
      have gp : gf w p f p = f p := by
        unfold gf
        have : ¬ ((p : Int) < p) := by omega
        simp [this]
      have ih := pass_law hb0 hf hs hL k (p + 1) (by omega)
      have ec : (((p + 1 : Nat)) : Int) = (p : Int) + 1 := by omega
      rw [ec] at ih
      obtain ⟨p', h1, h2, h3, h4, h5⟩ := ih
      refine ⟨p', by omega, h2, ?_, h4, fun i hi1 hi2 => ?_⟩
      · cases hin : w.any (· == (p : Int)) with
        | true =>
          rw [if_pos rfl, Int.toNat_natCast, cB_set hpl hb (gf_in hin), gp, ← stF_in hs hin]
          exact h3
        | false =>
          rw [if_neg (by simp)]
          rw [stF_out hin] at h3
          rw [cB_congr (g := gf w p f) fun i _ _ => gf_out hin i] at h3
          exact h3
      · by_cases e : i = p
        · rw [e]; exact hb
        · exact h5 i (by omega) hi2
    · rw [if_neg hb] at hcn
      have ho : ownC (cB ats (gf w p f) b) p = false := by simp [ownC, hcn]
      exact ⟨p, Nat.le_refl _, by omega, psF_stop (by simp [ho]), fun _ => hb, fun i h1 h2 => by omega⟩
/-- Other brokers' counts stay. -/
theorem other_law {ats : List (Int × Int × Int)} {w : List Int} {f : Nat → Int} {b b' : Int} {p p' : Nat} (hn : b' ≠ b) (h : ∀ i : Nat, p ≤ i → i < p' → brk ats i = b) (hp : p ≤ p') : cB ats (gf w p' f) b' = cB ats (gf w p f) b' := by
  refine cB_congr fun i hi hb => ?_
  have : ¬ (p ≤ i ∧ i < p') := fun q => hn (by rw [← hb]; exact h i q.1 q.2)
  unfold gf
  have : decide ((i : Int) < (p' : Int)) = decide ((i : Int) < (p : Int)) := by rw [decide_eq_decide]; omega
  rw [this]
theorem brk_mono {ats : List (Int × Int × Int)} {m : Nat} (c : ChO m ats) {i j : Nat} (h : i ≤ j) (hj : j < ats.length) : brk ats i ≤ brk ats j := by
  by_cases e : i = j
  · rw [e]; exact Int.le_refl _
  · have hi : i < ats.length := by omega
    have e1 : ats[i]? = some ats[i] := List.getElem?_eq_getElem hi
    have e2 : ats[j]? = some ats[j] := List.getElem?_eq_getElem hj
    have := List.pairwise_iff_getElem.1 c.s i j hi hj (by omega)
    simp [brk, e1, e2, this]
theorem brk_in {ats : List (Int × Int × Int)} {m : Nat} (c : ChO m ats) {i : Nat} (hi : i < ats.length) : 0 ≤ brk ats i ∧ brk ats i ≤ m := by
  have e1 : ats[i]? = some ats[i] := List.getElem?_eq_getElem hi
  have := c.b _ (List.getElem_mem hi)
  simp [brk, e1, this]
theorem first_law {w : List Int} {a : Int} {f : Nat → Int} (hs : w.Pairwise (· < ·)) (ha : w[0]? = some a) : gf w a f = f ∧ stF w a f = [] := by
  cases w with
  | nil => simp at ha
  | cons x w =>
    simp at ha; subst ha
    have h1 : ∀ y, y ∈ x :: w → ¬ y < x := fun y hy => by
      rcases List.mem_cons.1 hy with q | q
      · omega
      · cases hs with
        | cons h1 _ => have := h1 y q; omega
    constructor
    · funext i
      unfold gf
      have : ((x :: w).any (· == (i : Int)) && decide ((i : Int) < x)) = false := by
        rw [Bool.and_eq_false_iff]
        by_cases q : (x :: w).any (· == (i : Int)) = true
        · exact .inr (decide_eq_false (h1 _ (any_mem.1 q)))
        · exact .inl (Bool.eq_false_iff.2 q)
      rw [this]
      simp
    · unfold stF
      rw [List.filter_eq_nil_iff.2 fun y hy => by simpa using Int.not_lt.1 (h1 y hy)]
      rfl
theorem last_law {w : List Int} {f : Nat → Int} (hs : w.Pairwise (· < ·)) (h0 : 0 < w.length) : stF w (lastW w + 1) f = w.map fun q => (q, f q.toNat + 1) := by
  unfold stF
  congr 1
  rw [List.filter_eq_self]
  intro y hy
  obtain ⟨i, hi, rfl⟩ := List.getElem_of_mem hy
  have hl := lastW_at h0
  have hl2 : w[w.length - 1] = lastW w := by
    rw [List.getElem?_eq_getElem (by omega)] at hl
    exact Option.some.inj hl
  by_cases e : i = w.length - 1
  · subst e; rw [hl2]; simp; omega
  · have := List.pairwise_iff_getElem.1 hs i (w.length - 1) hi (by omega) (by omega)
    rw [hl2] at this
    simp; omega
end Go.Proofs.Ytbkfamdkdjajjaa

/-! Law SeqNumbers: all brokers' Seqs; an event is walked along the chain. -/
namespace Go.Proofs.Ytbkfamdkdjajjaa
open Go.Ab

/-- A pointer to an object. -/
def psR : Rp Nat := ⟨1, by decide, fun _ cs x => cs = [.ptr x 0], fun h => by rw [h]; rfl, fun h => by rw [h]; rfl, fun h _ => h⟩
theorem ps_at {h : Heap} {v : AVal} {l : List Nat} (o : Sl psR h v l) {i : Nat} {x : Nat} (hx : l[i]? = some x) : ∃ b p B, ixsR 1 v (.int .i64 (i : Int)) = some (.ptr b p) ∧ h.get b = some B ∧ B[p]? = some (.ptr x 0) := by
  obtain ⟨b1, p1, B1, c1, q1, q2, q3⟩ := o.at (n := 1) rfl (i := (i : Int)) (by omega) (by simpa using hx)
  have q3 : c1 = [.ptr x 0] := q3
  subst q3
  exact ⟨b1, p1, B1, q1, q2.get, q2.cell0 (by simp)⟩

/-- The brokers' Seqs; their blocks are none ahead of K, none behind M. -/
structure Sqs (K M : Nat) (h : Heap) (l : List (Nat × Nat × Nat)) (c : Nat → List Int) : Prop where
  g : ∀ (i : Nat) (x : Nat × Nat × Nat), l[i]? = some x → SeqG h x.1 x.2.1 x.2.2 (c i)
  k : ∀ (i : Nat) (x : Nat × Nat × Nat), l[i]? = some x → K ≤ x.1 ∧ K ≤ x.2.1 ∧ K ≤ x.2.2 ∧ x.1 < M ∧ x.2.1 < M ∧ x.2.2 < M
  d : ∀ (i j : Nat) (x y : Nat × Nat × Nat), l[i]? = some x → l[j]? = some y → i ≠ j → x.2.2 ≠ y.1 ∧ x.2.2 ≠ y.2.1 ∧ x.2.2 ≠ y.2.2
theorem Sqs.ext {K M : Nat} {h h' : Heap} {l : List (Nat × Nat × Nat)} {c : Nat → List Int} {S : List Nat} (o : Sqs K M h l c) (x : Ext S h h') (hs : ∀ s, s ∈ S → s < K ∨ M ≤ s) : Sqs K M h' l c :=
  ⟨fun i y hy => by
    obtain ⟨k1, k2, k3, k4, k5, k6⟩ := o.k i y hy
    exact (o.g i y hy).ext x (fun q => by have := hs _ q; omega) (fun q => by have := hs _ q; omega) (fun q => by have := hs _ q; omega), o.k, o.d⟩
theorem Sqs.congr {K M : Nat} {h : Heap} {l : List (Nat × Nat × Nat)} {c c' : Nat → List Int} (o : Sqs K M h l c) (e : ∀ i, i < l.length → c i = c' i) : Sqs K M h l c' :=
  ⟨fun i x hx => by rw [← e i (List.getElem?_eq_some_iff.1 hx).1]; exact o.g i x hx, o.k, o.d⟩
theorem Sqs.set {K M : Nat} {h h' : Heap} {l : List (Nat × Nat × Nat)} {c c' : Nat → List Int} {i : Nat} {x : Nat × Nat × Nat} (o : Sqs K M h l c) (hx : l[i]? = some x) (hy : Ext [x.2.2] h h') (s : SeqG h' x.1 x.2.1 x.2.2 (c' i)) (e : ∀ j, j < l.length → j ≠ i → c j = c' j) : Sqs K M h' l c' :=
  ⟨fun j y hj => by
    by_cases q : j = i
    · subst q
      cases hx.symm.trans hj
      exact s
    · rw [← e j (List.getElem?_eq_some_iff.1 hj).1 q]
      obtain ⟨d1, d2, d3⟩ := o.d i j x y hx hj (fun z => q z.symm)
      exact (o.g j y hj).ext hy (by simpa using d1.symm) (by simpa using d2.symm) (by simpa using d3.symm), o.k, o.d⟩

/-- The event as it stands at p. -/
def evP (p : Int) (st : List (Int × Int)) : Ev := ⟨0, 0, 0, 0, p, [], st⟩

section
variable {X : XTab}

/-- Step by step to the end of the way. -/
theorem num_steps (hX : OnlyKnown X) {h2 h : Heap} {t : T} {cv pv allv gv wv : AVal} {K M be i : Nat} {ys : List Int} {ats : List (Int × Int × Int)} {l : List (Nat × Nat × Nat)} {f : Nat → Int} {w : List Int} {a : Int} {va z v1 v8 : AVal} {C : Int}
    (t1 : t 1 = v1) (t6 : t 6 = cv) (t8 : t 8 = v8) (t9 : t 9 = pv) (t10 : t 10 = allv) (t13 : t 13 = gv) (t14 : t 14 = I i) (t15 : t 15 = wv) (t16 : t 16 = .ptr be 0) (t17 : t 17 = I 0)
    (oc : Sl atR h cv ats) (op : Sl intR h pv ys) (hy : ys.length ≤ 7) (ca : ChO ys.length ats) (sq : Sqs K M h l fun b => cB ats f b) (hl : l.length = ys.length + 1) (sp : Sl psR h allv (l.map (·.1)))
    (hf : ∀ i, 0 ≤ f i ∧ f i ≤ C) (hC : C ≤ 1000) (sw : Sl intR h wv w) (hw : w.Pairwise (· < ·)) (hw0 : w[0]? = some a) (hwl : w.length ≤ 4000) (hwr : ∀ y, y ∈ w → 0 ≤ y ∧ y < ats.length)
    (oe : Ob h be (evC (evP a []) va z)) (oa : Sl attrR h va []) (os : Sl pairR h z []) (hbe : M ≤ be) (hKM : K ≤ M) (hM : h2.next ≤ K) (xg : Ext [] h2 h) (hbl : ∀ x, x ∈ l → x.2.2 < be) :
    Tells (fun m => loopN (L_precentorlaw14_SeqNumbers_15 Try.prog (acallX Try.prog X m) m) m t h) fun r g => r.1 = .exit 4 ∧ r.2 1 = v1 ∧ r.2 6 = cv ∧ r.2 8 = v8 ∧ r.2 9 = pv ∧ r.2 10 = allv ∧ r.2 13 = gv ∧ r.2 14 = I i ∧ r.2 15 = wv ∧ r.2 16 = .ptr be 0 ∧
      Sqs K M g l (fun b => cB ats (gf w (lastW w + 1) f) b) ∧ ∃ va z, Ob g be (evC (evP (lastW w + 1) (stF w (lastW w + 1) f)) va z) ∧ Sl pairR g z (stF w (lastW w + 1) f) ∧ ∃ S, (∀ s, s ∈ S → K ≤ s ∧ s < M ∨ s = be) ∧ Ext S h g := by
  have lw0 : 0 < w.length := (List.getElem?_eq_some_iff.1 hw0).1
  have hlast := hwr _ (List.mem_of_getElem? (lastW_at lw0))
  have hfirst := hwr _ (List.mem_of_getElem? hw0)
  have la := ca.n
  have hal : a ≤ lastW w := by
    have h1 := lastW_at lw0
    by_cases e : w.length - 1 = 0
    · rw [e, hw0] at h1
      cases h1; exact Int.le_refl _
    · have := List.pairwise_iff_getElem.1 hw 0 (w.length - 1) lw0 (by omega) (by omega)
      rw [(List.getElem?_eq_some_iff.1 hw0).2, (List.getElem?_eq_some_iff.1 h1).2] at this
      omega
  obtain ⟨f1, f2⟩ := first_law (f := f) hw hw0
  generalize hL : lastW w = last at *
  obtain ⟨p0, rfl⟩ : ∃ n : Nat, a = n := ⟨a.toNat, by omega⟩
  refine (Tells.loop (fun n t g => ∃ (p s : Nat) (va z : AVal), t 1 = v1 ∧ t 6 = cv ∧ t 8 = v8 ∧ t 9 = pv ∧ t 10 = allv ∧ t 13 = gv ∧ t 14 = I i ∧ t 15 = wv ∧ t 16 = .ptr be 0 ∧ t 17 = I s ∧ s + n = ys.length + 1 ∧ (p : Int) ≤ last ∧ (s : Int) ≤ brk ats p ∧
      Sqs K M g l (fun b => cB ats (gf w p f) b) ∧ Ob g be (evC (evP p (stF w p f)) va z) ∧ Sl attrR g va [] ∧ Sl pairR g z (stF w p f) ∧ ∃ S, (∀ s, s ∈ S → K ≤ s ∧ s < M ∨ s = be) ∧ Ext S h g) ?_ (ys.length + 1) _ _ ?_)
  · rintro n t g ⟨p, s, va, z, t1, t6, t8, t9, t10, t13, t14, t15, t16, t17, hn, hp, hs, sq, oe, oa, os, S, hS, x⟩
    refine Tells.prot fun Q2 hQ2 => ?_
    have hpl : p < ats.length := by omega
    obtain ⟨br1, br2⟩ := brk_in ca hpl
    have hs2 : s ≤ ys.length := by omega
    have ocg := oc.ext x
    have opg := op.ext x
    have spg := sp.ext x
    have swg := sw.ext x
    obtain ⟨e, he⟩ : ∃ e, ats[p]? = some e := ⟨_, List.getElem?_eq_getElem hpl⟩
    have hbe2 : e.2.2 = brk ats p := by simp [brk, he]
    obtain ⟨B, hB⟩ : ∃ B : Nat, brk ats p = B := ⟨(brk ats p).toNat, by omega⟩
    obtain ⟨y, hy1⟩ : ∃ y, l[B]? = some y := ⟨_, List.getElem?_eq_getElem (by omega)⟩
    have hy2 : (l.map (·.1))[B]? = some y.1 := by rw [List.getElem?_map, hy1]; rfl
    obtain ⟨b1, p1, B1, q1, q2, q3, q4, q5, _⟩ := at_at ocg he
    obtain ⟨b2, p2, B2, r1, r2, r3⟩ := ps_at spg hy2
    have oe' := oe.1
    simp only [evC, evP] at oe'
    have c1 : ¬ ((ys.length : Int) < s) := by omega
    have c1' : ¬ (ys.length < s) := by omega
    have c2 : ¬ ((p : Int) < 0) := by omega
    have c3 : ¬ ((ats.length : Int) ≤ p) := by omega
    have c3' : ¬ (ats.length ≤ p) := by omega
    unfold L_precentorlaw14_SeqNumbers_15
    rw [hbe2, hB] at q5
    simp [t17, t9, opg.len, c1, c1', t16, oe', c2, t6, ocg.len, c3, c3', J_precentorlaw14_SeqNumbers_17, t10, q1, q2, q5, r1, r2, r3, t15]
    have sgB := sq.g B y hy1
    have hst : (stF w p f).length ≤ w.length := by unfold stF; rw [List.length_map]; exact List.length_filter_le _ _
    refine Tells.cbE (seq_PassG hX (x := evP p (stF w p f)) sgB (by rw [cB_len]; exact la) (fun c hc => ?_) swg hwl ⟨by rw [hL]; omega, by rw [hL]; omega⟩ ⟨by simp only [evP]; omega, by simp only [evP]; omega⟩ oa (by simp [evP]) os (by simp only [evP]; omega)) ?_
    · obtain ⟨j, hj, rfl⟩ := List.mem_map.1 hc
      have := hf j
      have hg : gf w p f j ≤ f j + 1 := by unfold gf; split <;> omega
      split <;> omega
    rintro _ g1 ⟨va1, z1, rfl, oa1, os1, wa1, wz1, sg1, x1⟩
    obtain ⟨p', h1, h2', h3, h4, h5⟩ := pass_law (ats := ats) (w := w) (f := f) (b := (B : Int)) (last := last) (by omega) (fun j => (hf j).1) hw hlast.2 (last + 1 - p).toNat p (by omega)
    have hR : passF w (cB ats (gf w p f) B) (evP p (stF w p f)).p (evP p (stF w p f)).sts = (cB ats (gf w p' f) B, (p' : Int), stF w p' f) := by
      unfold passF
      rw [hL]
      exact h3
    rw [hR] at os1 sg1 ⊢
    simp only at os1 sg1
    simp only [evP] at oa1
    obtain ⟨kk1, kk2, kk3, kk4, kk5, kk6⟩ := sq.k B y hy1
    have oe1 := oe.ext x1 (by simp; omega)
    have sq1 : Sqs K M g1 l (fun b => cB ats (gf w p' f) b) := sq.set hy1 x1 sg1 fun j hj hjB => (other_law (by omega) h5 h1).symm
    simp [extR]
    refine Tells.newV fun g2 bx ox x2 l2 => ?_
    refine Tells.stNE ox (ds := evC (evP p' (stF w p' f)) va1 z1) (by simp [evC, evP]) (by rfl) (by simp [evC, evP, oa1.one, os1.one]) (by rfl) fun g3 ox3 x3 => ?_
    have oe3 := (oe1.e x2).ext x3 (by have := oe1.lt; simp; omega)
    have ox3' := ox3.1
    simp only [evC, evP] at ox3'
    simp [ox3', t16]
    refine Tells.stN oe3 (ds := evC (evP p' (stF w p' f)) va1 z1) (by simp [evC, evP]) (by rfl) (by simp [evC, evP, oa1.one, os1.one]) (by rfl) fun g4 oe4 x4 => ?_
    have n1 := x1.next
    have n0 := x.next
    have nbe := oe1.lt
    have nx := x.next
    have xx1 : Ext (y.2.2 :: be :: S) h g1 := (x.mono (fun s hs => by simp [hs])).then x1 (fun s hs => .inl (by simp at hs; simp [hs]))
    have xx3 : Ext (y.2.2 :: be :: S) h g3 := (xx1.quiet x2).then x3 (fun s hs => .inr (by simp at hs; omega))
    have xx4 : Ext (y.2.2 :: be :: S) h g4 := xx3.then x4 (fun s hs => .inl (by simp at hs; simp [hs]))
    have hS4 : ∀ s, s ∈ y.2.2 :: be :: S → K ≤ s ∧ s < M ∨ s = be := fun s hs => by
      rcases List.mem_cons.1 hs with q | q
      · subst q; exact .inl ⟨kk3, kk6⟩
      · rcases List.mem_cons.1 q with q | q
        · exact .inr q
        · exact hS s q
    have oa4 : Sl attrR g4 va1 [] := ((oa1.ext x2).ext x3).ext x4
    have os4 := ((os1.ext x2).ext x3).ext x4
    have sq4 : Sqs K M g4 l (fun b => cB ats (gf w p' f) b) := ((sq1.ext x2 (by simp)).ext x3 (fun s hs => by simp at hs; have := sg1.s.lt; omega)).ext x4 (fun s hs => by simp at hs; omega)
    have wne : w.length ≠ 0 := by omega
    by_cases c5 : (p' : Int) ≤ last
    · have ht : thruF w (p' : Int) = false := by
        have e1 : decide (w.length = 0) = false := decide_eq_false wne
        have e2 : decide (last < (p' : Int)) = false := decide_eq_false (by omega)
        simp only [thruF, hL, e1, e2, Bool.or_self]
      have hp'l : p' < ats.length := by omega
      have hmo := brk_mono ca h1 hp'l
      have hne := h4 c5
      have ws : IntKind.i64.wrap ((s : Int) + 1) = s + 1 := wrap_id (by omega) (by omega)
      simp [ht, J_precentorlaw14_SeqNumbers_16, t17, ws]
      exact Tells.ok (hQ2 _ _ (.inl ⟨rfl, n - 1, by omega, p', s + 1, va1, z1, by simp [t1], by simp [t6], by simp [t8], by simp [t9], by simp [t10], by simp [t13], by simp [t14], by simp [t15], by simp [t16], by simp, by omega, c5, by omega, sq4, oe4, oa4, os4, _, hS4, xx4⟩))
    · have ht : thruF w (p' : Int) = true := by
        have e2 : decide (last < (p' : Int)) = true := decide_eq_true (by omega)
        simp only [thruF, hL, e2, Bool.or_true]
      have hp' : (p' : Int) = last + 1 := by omega
      simp [ht]
      refine Tells.ok (hQ2 _ _ (.inr ⟨by simp, rfl, by simp [t1], by simp [t6], by simp [t8], by simp [t9], by simp [t10], by simp [t13], by simp [t14], by simp [t15], by simp [t16], ?_, va1, z1, ?_, ?_, _, hS4, xx4⟩))
      · rw [← hp']; exact sq4
      · rw [← hp']; exact oe4
      · rw [← hp']; exact os4
  · refine ⟨p0, 0, va, z, t1, t6, t8, t9, t10, t13, t14, t15, t16, by simpa using t17, by omega, hal, (brk_in ca (by omega)).1, ?_, ?_, oa, ?_, [], by simp, .refl⟩
    · rw [f1]; exact sq
    · rw [f2]; exact oe
    · rw [f2]; exact os
end
end Go.Proofs.Ytbkfamdkdjajjaa

/-! Law SeqTells. -/
namespace Go.Proofs.Ytbkfamdkdjajjaa
open Go.Ab
theorem two35 : isTwo Try.prog 35 = true := by kernel_rfl
theorem seqTellsF {X : XTab} (hX : OnlyKnown X) (hk : X F_precentorlaw14_known [] = some (.bool true)) {h : Heap} {v1 v2 : AVal} {xs1 xs2 : List Int} (r1 : RawInts h v1 xs1) (r2 : RawInts h v2 xs2) (br : Int) (hbr : In64 br) :
    Tells (fun m => acallX Try.prog X m F_precentorlaw14_SeqTells [v1, v2, I br] h) fun r _ => r = .bool true := seqTells_ hX hk two35 r1 r2 br hbr
end Go.Proofs.Ytbkfamdkdjajjaa

/-! Law SeqNumbers: the walk. -/
namespace Go.Proofs.Ytbkfamdkdjajjaa
open Go.Ab

/-- The counts that are given, when k of the way are told. -/
def gk (w : List Int) (k : Nat) (f : Nat → Int) : Nat → Int := fun j => f j + if (w.take k).any (· == (j : Int)) = true then 1 else 0
theorem gk_at {w : List Int} {k q : Nat} {f : Nat → Int} (hs : w.Pairwise (· < ·)) (hq : w[k]? = some (q : Int)) : gk w k f q = f q := by
  have hk := (List.getElem?_eq_some_iff.1 hq).1
  have hv := (List.getElem?_eq_some_iff.1 hq).2
  unfold gk
  have : (w.take k).any (· == (q : Int)) = false := by
    rw [List.any_eq_false]
    intro y hy
    obtain ⟨i, hi, rfl⟩ := List.getElem_of_mem hy
    have hi2 : i < k := by rw [List.length_take] at hi; omega
    have := List.pairwise_iff_getElem.1 hs i k (by omega) hk hi2
    rw [hv] at this
    rw [List.getElem_take]
    simp; omega
  rw [this]
  simp
theorem gk_step {w : List Int} {k q : Nat} {f : Nat → Int} (hs : w.Pairwise (· < ·)) (hq : w[k]? = some (q : Int)) (j : Nat) : gk w (k + 1) f j = if j = q then f q + 1 else gk w k f j := by
  unfold gk
  rw [List.take_add_one, hq]
  by_cases e : j = q
  · subst e; simp
  · have e2 : ¬ (q : Int) = j := by omega
    rw [if_neg e]
    simp [e2]
theorem gk_last {w : List Int} {f : Nat → Int} (hs : w.Pairwise (· < ·)) (h0 : 0 < w.length) : gk w w.length f = gf w (lastW w + 1) f := by
  funext j
  unfold gk gf
  rw [List.take_length]
  by_cases hj : w.any (· == (j : Int)) = true
  · have hm := any_mem.1 hj
    obtain ⟨i, hi, he⟩ := List.getElem_of_mem hm
    have hl := (List.getElem?_eq_some_iff.1 (lastW_at h0)).2
    have : (j : Int) < lastW w + 1 := by
      by_cases e : i = w.length - 1
      · subst e; rw [hl] at he; omega
      · have := List.pairwise_iff_getElem.1 hs i (w.length - 1) hi (by omega) (by omega)
        rw [hl, he] at this; omega
    rw [hj, decide_eq_true this]; rfl
  · rw [Bool.eq_false_iff.2 hj]; rfl
theorem Sqs.up {K M M' : Nat} {h : Heap} {l : List (Nat × Nat × Nat)} {c : Nat → List Int} (o : Sqs K M h l c) (hm : M ≤ M') : Sqs K M' h l c := ⟨o.g, fun i x hx => by have := o.k i x hx; omega, o.d⟩
theorem Sqs.add {K : Nat} {h h' : Heap} {l : List (Nat × Nat × Nat)} {c : Nat → List Int} {bs bm bn : Nat} (o : Sqs K h.next h l c) (x : Ext [] h h') (s : SeqG h' bs bm bn (c l.length)) (h1 : h.next ≤ bs) (h2 : h.next ≤ bm) (h3 : h.next ≤ bn) (hK : K ≤ h.next) : Sqs K h'.next h' (l ++ [(bs, bm, bn)]) c := by
  have at_ : ∀ (i : Nat) (y : Nat × Nat × Nat), (l ++ [(bs, bm, bn)])[i]? = some y → l[i]? = some y ∨ (i = l.length ∧ y = (bs, bm, bn)) := fun i y hy => by
    by_cases e : i < l.length
    · rw [List.getElem?_append_left e] at hy; exact .inl hy
    · rw [List.getElem?_append_right (by omega)] at hy
      by_cases e2 : i = l.length
      · subst e2; simp at hy; exact .inr ⟨rfl, hy.symm⟩
      · rw [List.getElem?_eq_none (by simp; omega)] at hy; cases hy
  have ha := s.s.lt
  have hb := s.m.lt
  have hc := s.n.lt
  have hn := x.next
  refine ⟨fun i y hy => ?_, fun i y hy => ?_, fun i j y z hy hz hij => ?_⟩
  · rcases at_ i y hy with q | ⟨rfl, rfl⟩
    · exact (o.g i y q).e x
    · exact s
  · rcases at_ i y hy with q | ⟨rfl, rfl⟩
    · have := o.k i y q; omega
    · exact ⟨by show K ≤ bs; omega, by show K ≤ bm; omega, by show K ≤ bn; omega, ha, hb, hc⟩
  · rcases at_ i y hy with q | ⟨rfl, rfl⟩
    · rcases at_ j z hz with r | ⟨rfl, rfl⟩
      · exact o.d i j y z q r hij
      · have := o.k i y q
        exact ⟨by show y.2.2 ≠ bs; omega, by show y.2.2 ≠ bm; omega, by show y.2.2 ≠ bn; omega⟩
    · rcases at_ j z hz with r | ⟨rfl, rfl⟩
      · have := o.k j z r
        exact ⟨by show bn ≠ z.1; omega, by show bn ≠ z.2.1; omega, by show bn ≠ z.2.2; omega⟩
      · omega

theorem Sqs.extM {K M : Nat} {h h' : Heap} {l : List (Nat × Nat × Nat)} {c : Nat → List Int} {S : List Nat} (o : Sqs K M h l c) (x : Ext S h h') (hs : ∀ s, s ∈ S → h.isM s = false) : Sqs K M h' l c :=
  ⟨fun i y hy => by
    have g := o.g i y hy
    exact g.ext x (fun q => by have := hs _ q; rw [g.s.2.1] at this; cases this) (fun q => by have := hs _ q; rw [g.m.2.1] at this; cases this) (fun q => by have := hs _ q; rw [g.n.2.1] at this; cases this), o.k, o.d⟩

section
variable {X : XTab}

/-- Each of the way is told one more. -/
theorem num_add (hX : OnlyKnown X) (hty : isTwo Try.prog 35 = true) {h : Heap} {t : T} {cv pv allv wv v1 v8 : AVal} {bg be i L : Nat} {f : Nat → Int} {w : List Int} {x : Ev} {va z : AVal}
    (t1 : t 1 = v1) (t6 : t 6 = cv) (t8 : t 8 = v8) (t9 : t 9 = pv) (t10 : t 10 = allv) (t13 : t 13 = .sl bg 0 L L 1 true) (t14 : t 14 = I i) (t15 : t 15 = wv) (t16 : t 16 = .ptr be 0)
    (og : Ob h bg (fnC f L)) (hf : ∀ i, 0 ≤ f i ∧ f i ≤ 1000) (sw : Sl intR h wv w) (hw : w.Pairwise (· < ·)) (hwl : w.length ≤ 4000) (hwr : ∀ y, y ∈ w → 0 ≤ y ∧ y < L)
    (oe : Ob h be (evC x va z)) (os : Sl pairR h z (w.map fun q => (q, f q.toNat + 1))) (hne : be ≠ bg) :
    Tells (fun m => J_precentorlaw14_SeqNumbers_11 Try.prog (acallX Try.prog X m) m (blkK 3 (sqK (J_precentorlaw14_SeqNumbers_8 Try.prog (acallX Try.prog X m) m okK) okK)) t h) fun r g => r.1 = .normal ∧ r.2 1 = v1 ∧ r.2 6 = cv ∧ r.2 8 = v8 ∧ r.2 9 = pv ∧ r.2 10 = allv ∧ r.2 13 = .sl bg 0 L L 1 true ∧ r.2 14 = I (IntKind.i64.wrap ((i : Int) + 1)) ∧ Ob g bg (fnC (gk w w.length f) L) ∧ Ext [bg] h g := by
  refine Tells.prot fun Q' hQ => ?_
  simp [J_precentorlaw14_SeqNumbers_11]
  refine Tells.bind (Tells.loop (fun n t g => ∃ k : Nat, t 1 = v1 ∧ t 6 = cv ∧ t 8 = v8 ∧ t 9 = pv ∧ t 10 = allv ∧ t 13 = .sl bg 0 L L 1 true ∧ t 14 = I i ∧ t 15 = wv ∧ t 16 = .ptr be 0 ∧ t 20 = I k ∧ k + n = w.length ∧ Ob g bg (fnC (gk w k f) L) ∧ Ext [bg] h g)
    (Q := fun r g => r.1 = .exit 6 ∧ r.2 1 = v1 ∧ r.2 6 = cv ∧ r.2 8 = v8 ∧ r.2 9 = pv ∧ r.2 10 = allv ∧ r.2 13 = .sl bg 0 L L 1 true ∧ r.2 14 = I i ∧ Ob g bg (fnC (gk w w.length f) L) ∧ Ext [bg] h g) ?_ w.length _ _ ⟨0, by simp [t1], by simp [t6], by simp [t8], by simp [t9], by simp [t10], by simp [t13], by simp [t14], by simp [t15], by simp [t16], by simp, by omega, ?_, .refl⟩) ?_
  · rintro n t g ⟨k, t1, t6, t8, t9, t10, t13, t14, t15, t16, t20, hn, og, xg⟩
    refine Tells.prot fun Q2 hQ2 => ?_
    unfold L_precentorlaw14_SeqNumbers_12
    have swg := sw.ext xg
    simp [t20, t15, swg.len]
    refine Tells.cb (fun hc => ?_) (fun hc => ?_)
    · simp at hc
      obtain ⟨q, hq⟩ : ∃ q, w[k]? = some q := ⟨_, List.getElem?_eq_getElem hc⟩
      have hqr := hwr q (List.mem_of_getElem? hq)
      obtain ⟨q, rfl⟩ : ∃ n : Nat, q = n := ⟨q.toNat, by omega⟩
      obtain ⟨b1, p1, B1, j1, j2, j3⟩ := swg.atI hq
      have hql : q < L := by omega
      have hix := ixs_made (b := bg) (k := L) (c := L) (z := 1) (i := q) hql
      rw [Nat.mul_one] at hix
      have hca := fnC_at (f := gk w k f) hql
      rw [gk_at hw hq] at hca
      have hfq := hf q
      have wf : IntKind.i64.wrap (f q + 1) = f q + 1 := wrap_id (by omega) (by omega)
      have wk : IntKind.i64.wrap ((k : Int) + 1) = k + 1 := wrap_id (by omega) (by omega)
      simp [J_precentorlaw14_SeqNumbers_13, t13, t15, t20, j1, j2, j3, hix, og.1, hca, wf]
      refine Tells.st1 og (by rfl) (by rfl) (by rw [fnC_len]; exact hql) fun g1 og1 x1 => ?_
      rw [fnC_set (f := gk w k f) (g := gk w (k + 1) f) (n := L) (z := q) (v := f q + 1) fun j _ => gk_step hw hq j] at og1
      have X1 := xg.trans x1
      have oe1 := oe.ext X1 (by simpa using hne)
      have os1 := os.ext X1
      have swg1 := sw.ext X1
      obtain ⟨b1', p1', B1', j1', j2', j3'⟩ := swg1.atI hq
      cases j1.symm.trans j1'
      have hms : (w.map fun q => (q, f q.toNat + 1))[k]? = some ((q : Int), f q + 1) := by rw [List.getElem?_map, hq]; simp
      obtain ⟨b2, p2, B2, c2, r1, r2, r3⟩ := os1.at (n := 2) (x := ((q : Int), f q + 1)) rfl (i := (k : Int)) (by omega) (by rw [Int.toNat_natCast]; exact hms)
      have r3 : c2 = [I (q : Int), I (f q + 1)] := r3
      subst r3
      have r4 := r2.lda (n := 2) rfl
      have r4b : (if p2 + 2 ≤ B2.length then some (AVal.agg (List.take 2 (List.drop p2 B2))) else none) = some (.agg [I (q : Int), I (f q + 1)]) := by simpa [r2.get] using r4
      have hca1 := fnC_at (f := gk w (k + 1) f) hql
      rw [gk_step hw hq, if_pos rfl] at hca1
      have oe1' := oe1.1
      simp only [evC] at oe1'
      have ne := fun u v => aBin_neq2 (P := Try.prog) hty u v (q : Int) (f q + 1) (q : Int) (f q + 1)
      simp only [beq_self_eq_true, Bool.and_self, Bool.not_true] at ne
      simp [t13, t15, t16, t20, oe1', r1, r2.get, r4b, j1, j2', j3', hix, og1.1, hca1, bldR, fillR, splice, ne, J_precentorlaw14_SeqNumbers_14, wk]
      exact Tells.ok (hQ2 _ _ (.inl ⟨rfl, n - 1, by omega, k + 1, by simp [t1], by simp [t6], by simp [t8], by simp [t9], by simp [t10], by simp [t13], by simp [t14], by simp [t15], by simp [t16], by simp, by omega, og1, X1⟩))
    · simp at hc
      have : k = w.length := by omega
      subst this
      exact Tells.ok (hQ2 _ _ (.inr ⟨by simp, rfl, by simp [t1], by simp [t6], by simp [t8], by simp [t9], by simp [t10], by simp [t13], by simp [t14], og, xg⟩))
  · have : gk w 0 f = f := by funext j; simp [gk]
    rw [this]; exact og
  · rintro ⟨ex, t⟩ g ⟨rfl, t1, t6, t8, t9, t10, t13, t14, og, xg⟩
    simp only at t1 t6 t8 t9 t10 t13 t14
    simp [J_precentorlaw14_SeqNumbers_8, t14]
    exact Tells.ok (hQ _ _ ⟨rfl, by simp [t1], by simp [t6], by simp [t8], by simp [t9], by simp [t10], by simp [t13], by simp, og, xg⟩)

theorem seqNumbers_ (hX : OnlyKnown X) (hk : X F_precentorlaw14_known [] = some (.bool true)) {h : Heap} {v1 v2 : AVal} {xs1 xs2 : List Int} (r1 : RawInts h v1 xs1) (r2 : RawInts h v2 xs2) :
    Tells (fun m => acallX Try.prog X m F_precentorlaw14_SeqNumbers [v1, v2] h) fun r _ => r = .bool true := by
  have hty := two35
  refine R_precentorlaw14_SeqNumbers _ _ (hX _ _ rfl) ?_
  refine Tells.prot fun Q' hQ => ?_
  unfold S_precentorlaw14_SeqNumbers
  simp [bldR, fillR, splice, r1.sl.known, r1.sl.cells]
  refine Tells.box rfl rfl fun h1 bf f1 x1 l1 => ?_
  have rr := r1.ext x1
  have fd : Feed h1 bf 0 := ⟨v1, 0, xs1, f1, by omega, by omega, rr.sl, rr.small, rr.old⟩
  try simp
  refine Tells.bind (made14 hX fd (by omega) (n := 5) (by omega)) ?_
  rintro _ h2 ⟨cv, dv, wv, pv, ys, ats, ws, rfl, hy, op, oc, od, ca, ow, lw, hw, x2, f2⟩
  have la := ca.n
  have rr2 := (r2.ext x1).ext x2
  simp [extR]
  refine Tells.bind (Tells.loop (fun n t g => ∃ (l : List (Nat × Nat × Nat)), t 1 = v2 ∧ t 6 = cv ∧ t 8 = wv ∧ t 9 = pv ∧ t 11 = I l.length ∧ l.length + n = ys.length + 1 ∧ Sqs h2.next g.next g l (fun b => cB ats (fun _ => 0) b) ∧ Gl psR h2 g (t 10) (l.map (·.1)) ∧ Ext [] h2 g)
    (Q := fun p g => p.1 = .exit 0 ∧ p.2 1 = v2 ∧ p.2 6 = cv ∧ p.2 8 = wv ∧ p.2 9 = pv ∧ ∃ l : List (Nat × Nat × Nat), l.length = ys.length + 1 ∧ Sqs h2.next g.next g l (fun b => cB ats (fun _ => 0) b) ∧ Sl psR g (p.2 10) (l.map (·.1)) ∧ Ext [] h2 g) ?_ (ys.length + 1) _ _ ⟨[], by simp, by simp, by simp, by simp, by simp, by simp, ⟨by simp, by simp, by simp⟩, by simpa using Gl.nil, .refl⟩) ?_
  · rintro n t g ⟨l, t1, t6, t8, t9, t11, hn, sq, gp, xg⟩
    refine Tells.prot fun Q2 hQ2 => ?_
    unfold L_precentorlaw14_SeqNumbers_18
    have opg := op.ext xg
    have nx := xg.next
    by_cases hc : l.length ≤ ys.length
    · have hc' : (l.length : Int) ≤ ys.length := by omega
      have w : IntKind.i64.wrap ((l.length : Int) + 1) = l.length + 1 := wrap_id (by omega) (by omega)
      simp [t11, t9, opg.len, hc, hc', J_precentorlaw14_SeqNumbers_19, t6]
      refine Tells.bind (seq_NewG hX (oc.ext xg) la (l.length : Int)) ?_
      rintro _ g1 ⟨bs, bm, bn, rfl, sg, x1, lb1, lb2, lb3⟩
      rw [cB_new] at sg
      have sq1 := sq.add x1 (bs := bs) (bm := bm) (bn := bn) sg lb1 lb2 lb3 nx
      simp [ptr_nil Try.underlying25, J_precentorlaw14_SeqNumbers_21]
      refine Tells.app1 (gp.e x1) (by rfl) (by rfl) (show psR.rep g1 [.ptr bs 0] bs from rfl) (by rfl) (by rfl) (by simp; omega) (by decide) (xg.trans x1).next fun s3 g3 gp3 x3 y3 _ => ?_
      have sq3 : Sqs h2.next g3.next g3 (l ++ [(bs, bm, bn)]) (fun b => cB ats (fun _ => 0) b) := (sq1.extM x3 (fun s hs => ((gp.e x1).1.blk s hs).1)).up x3.next
      simp [J_precentorlaw14_SeqNumbers_20, t11, w]
      exact Tells.ok (hQ2 _ _ (.inl ⟨rfl, n - 1, by omega, l ++ [(bs, bm, bn)], by simp [t1], by simp [t6], by simp [t8], by simp [t9], by simp, by simp; omega, sq3, by simpa using gp3, y3 [] (xg.trans x1)⟩))
    · have hc' : ¬ (l.length : Int) ≤ ys.length := by omega
      simp [t11, t9, opg.len, hc, hc']
      exact Tells.ok (hQ2 _ _ (.inr ⟨by simp, rfl, by simp [t1], by simp [t6], by simp [t8], by simp [t9], l, by omega, sq, by simpa using gp.1, xg⟩))
  rintro ⟨ex, t⟩ h5 ⟨rfl, t1, t6, t8, t9, l, hl, sq, sp, x5⟩
  simp only at t1 t6 t8 t9 sp
  generalize hav : t 10 = allv at sp
  have n5 := x5.next
  simp [J_precentorlaw14_SeqNumbers_0, t6, (oc.ext x5).len]
  refine Tells.mak (k := ats.length) (cs := fnC (fun _ => 0) ats.length) (by rfl) (by omega) (by omega) (fnC_zeros _) fun h6 bg lbg og x6 => ?_
  have n6 := x6.next
  have hbg := og.lt
  try simp
  refine Tells.bind (Tells.loop (fun n t g => ∃ (i : Nat) (f : Nat → Int), t 1 = v2 ∧ t 6 = cv ∧ t 8 = wv ∧ t 9 = pv ∧ t 10 = allv ∧ t 13 = .sl bg 0 ats.length ats.length 1 true ∧ t 14 = I i ∧ i + n = min xs2.length 20 ∧ Ob g bg (fnC f ats.length) ∧ (∀ j, 0 ≤ f j ∧ f j ≤ i) ∧ Sqs h2.next h5.next g l (fun b => cB ats f b) ∧ Sl psR g allv (l.map (·.1)) ∧ Ext [] h2 g)
    (Q := fun p g => p.1 = .exit 2 ∧ p.2 6 = cv ∧ p.2 10 = allv ∧ p.2 13 = .sl bg 0 ats.length ats.length 1 true ∧ ∃ f : Nat → Int, Ob g bg (fnC f ats.length) ∧ (∀ j, 0 ≤ f j) ∧ Sqs h2.next h5.next g l (fun b => cB ats f b) ∧ Sl psR g allv (l.map (·.1)) ∧ Ext [] h2 g) ?_ (min xs2.length 20) _ _ ⟨0, fun _ => 0, by simp [t1], by simp [t6], by simp [t8], by simp [t9], by simp [hav], by simp, by simp, by omega, og, by simp, sq.ext x6 (by simp), sp.ext x6, x5.trans x6⟩) ?_
  · rintro n t g ⟨i, f, t1, t6, t8, t9, t10, t13, t14, hi, og, hf, sq, sp, xg⟩
    refine Tells.prot fun Q2 hQ2 => ?_
    unfold L_precentorlaw14_SeqNumbers_6
    have rg := rr2.ext xg
    have nx := xg.next
    have out : ∀ t2 : T, t2 6 = cv → t2 10 = allv → t2 13 = .sl bg 0 ats.length ats.length 1 true → Q2 (.exit 2, t2) g := fun t2 a6 a10 a13 => hQ2 _ _ (.inr ⟨by simp, rfl, a6, a10, a13, f, og, fun j => (hf j).1, sq, sp, xg⟩)
    by_cases c1 : i < xs2.length
    · have c1' : (i : Int) < xs2.length := by omega
      by_cases c2 : i < 20
      · have c2' : (i : Int) < 20 := by omega
        have wi : IntKind.i64.wrap ((i : Int) + 1) = i + 1 := wrap_id (by omega) (by omega)
        obtain ⟨a, ha⟩ : ∃ a, xs2[i]? = some a := ⟨_, List.getElem?_eq_getElem c1⟩
        obtain ⟨b1, p1, B1, j1, j2, j3⟩ := rg.sl.atI ha
        simp [t14, t1, rg.sl.len, c1, c1', c2, c2', J_precentorlaw14_SeqNumbers_7, t8, j1, j2, j3]
        refine Tells.bind (Pick hX a 5 ⟨by decide, by decide⟩ g) ?_
        rintro _ g ⟨rfl, rfl⟩
        have pj1 := pick_lo a 5
        have pj2 := pick_hi a 5 (by decide)
        generalize pick a 5 = jj at pj1 pj2
        obtain ⟨j, rfl⟩ : ∃ n : Nat, jj = n := ⟨jj.toNat, by omega⟩
        obtain ⟨way, hway⟩ : ∃ w, ws[j]? = some w := ⟨_, List.getElem?_eq_getElem (by omega)⟩
        obtain ⟨m, rfl⟩ := hw way (List.mem_of_getElem? hway)
        obtain ⟨b5, p5, B5, wv5, w1, w2, w3, sw⟩ := wy_at (ow.ext xg) hway
        have hsort : (walkF m ats).Pairwise (· < ·) := walkN_sorted
        have hlen : (walkF m ats).length ≤ ats.length := walkN_len
        have hmem : ∀ y, y ∈ walkF m ats → 0 ≤ y ∧ y < ats.length := fun y hy => by have := walkN_mem hy; omega
        generalize walkF m ats = w at *
        simp [w1, w2, w3, sw.len]
        by_cases h0 : w.length = 0
        · have h0' : ((w.length : Int) == 0) = true := by simp [h0]
          simp [h0, h0', J_precentorlaw14_SeqNumbers_8, t14, wi]
          exact Tells.ok (hQ2 _ _ (.inl ⟨rfl, n - 1, by omega, i + 1, f, by simp [t1], by simp [t6], by simp [t8], by simp [t9], by simp [t10], by simp [t13], by simp, by omega, og, fun j => by have := hf j; omega, sq, sp, xg⟩))
        · have h0' : ((w.length : Int) == 0) = false := beq_eq_false_iff_ne.2 (by omega)
          obtain ⟨a0, ha0⟩ : ∃ a, w[0]? = some a := ⟨_, List.getElem?_eq_getElem (by omega)⟩
          obtain ⟨b6, p6, B6, u1, u2, u3⟩ := sw.atI ha0
          have u1 : ixsR 1 wv5 (I 0) = some (.ptr b6 p6) := by simpa using u1
          simp [h0', J_precentorlaw14_SeqNumbers_9, u1, u2, u3, bldR, fillR, splice]
          refine Tells.newSt (ds := evC (evP a0 []) .nils .nils) (by rfl) (by rfl) (by rfl) (by rfl) fun g1 be oe y1 m1 => ?_
          have k1 := og.lt
          try simp
          have hml : ∀ x, x ∈ l → x.2.2 < be := fun x hx => by
            obtain ⟨q, hq, rfl⟩ := List.getElem_of_mem hx
            have := (sq.k q _ (List.getElem?_eq_getElem hq))
            omega
          have n1 := y1.next
          refine Tells.bind (num_steps hX (h2 := h2) (K := h2.next) (M := h5.next) (be := be) (i := i) (f := f) (w := w) (C := 1000) (v1 := v2) (cv := cv) (v8 := wv) (pv := pv) (allv := allv) (gv := .sl bg 0 ats.length ats.length 1 true) (wv := wv5) (by simp [t1]) (by simp [t6]) (by simp [t8]) (by simp [t9]) (by simp [t10]) (by simp [t13]) (by simp [t14]) (by simp) (by simp) (by simp) ((oc.ext xg).ext y1) ((op.ext xg).ext y1) hy ca (sq.ext y1 (by simp)) hl (sp.ext y1) (fun j => by have := hf j; omega) (by omega) (sw.ext y1) hsort ha0 (by omega) hmem oe Sl.nil Sl.nil (by omega) n5 (Nat.le_refl _) (xg.trans y1) hml) ?_
          rintro ⟨ex, t'⟩ g2 ⟨rfl, e1, e6, e8, e9, e10, e13, e14, e15, e16, sq2, va, z, oe2, os2, S, hS, y2⟩
          simp only at e1 e6 e8 e9 e10 e13 e14 e15 e16
          have w0 : 0 < w.length := by omega
          have sw2 := (sw.ext y1).ext y2
          rw [last_law hsort w0] at os2
          have ll := lastW_at w0
          obtain ⟨b7, p7, B7, k1', k2', k3'⟩ := sw2.atI ll
          have wl : IntKind.i64.wrap ((w.length : Int) - 1) = ((w.length - 1 : Nat) : Int) := by rw [wrap_id (by omega) (by omega)]; omega
          have hlm := hmem _ (List.mem_of_getElem? ll)
          have wl2 : IntKind.i64.wrap (lastW w + 1) = lastW w + 1 := wrap_id (by omega) (by omega)
          have oe2' := oe2.1
          simp only [evC, evP] at oe2'
          have ln : (w.map fun q => (q, f q.toNat + 1)).length = w.length := by simp
          simp [J_precentorlaw14_SeqNumbers_10, e16, oe2', e15, os2.len, sw2.len, wl, k1', k2', k3', wl2]
          have nS : bg ∉ S := fun q => by rcases hS _ q with r | r <;> omega
          have og2 := (og.ext y1 (by simp)).ext y2 nS
          have nbb : be ≠ bg := by omega
          refine ((num_add hX hty (i := i) (f := f) (w := w) (x := evP (lastW w + 1) (stF w (lastW w + 1) f)) (v1 := v2) (cv := cv) (v8 := wv) (pv := pv) (allv := allv) (wv := wv5) (bg := bg) (be := be) (L := ats.length) (by simp [e1]) (by simp [e6]) (by simp [e8]) (by simp [e9]) (by simp [e10]) (by simp [e13]) (by simp [e14]) (by simp [e15]) (by simp [e16]) og2 (fun j => by have := hf j; omega) sw2 hsort (by omega) hmem oe2 os2 nbb)).mono ?_
          rintro ⟨ex, t2⟩ g3 ⟨rfl, a1, a6, a8, a9, a10, a13, a14, og3, y3⟩
          rw [gk_last hsort w0] at og3
          refine hQ2 _ _ (.inl ⟨rfl, n - 1, by omega, i + 1, gf w (lastW w + 1) f, a1, a6, a8, a9, a10, a13, by rw [a14, wi]; rfl, by omega, og3, fun j => ?_, sq2.ext y3 (fun s hs => by simp at hs; omega), ((sp.ext y1).ext y2).ext y3, ((xg.trans y1).then y2 (fun s hs => by rcases hS _ hs with r | r <;> exact .inr (by omega))).then y3 (fun s hs => by simp at hs; exact .inr (by omega))⟩)
          have := hf j
          have := gf_nn (w := w) (p := lastW w + 1) (fun j => (hf j).1) j
          have : gf w (lastW w + 1) f j ≤ f j + 1 := by unfold gf; split <;> omega
          omega
      · have c2' : ¬ (i : Int) < 20 := by omega
        simp [t14, t1, rg.sl.len, c1, c1', c2, c2']
        exact Tells.ok (out _ (by simp [t6]) (by simp [t10]) (by simp [t13]))
    · have c1' : ¬ (i : Int) < xs2.length := by omega
      simp [t14, t1, rg.sl.len, c1, c1']
      exact Tells.ok (out _ (by simp [t6]) (by simp [t10]) (by simp [t13]))
  rintro ⟨ex, t⟩ g ⟨rfl, t6, t10, t13, f, og, hf, sq, sp, xg⟩
  simp only at t6 t10 t13
  simp [J_precentorlaw14_SeqNumbers_1]
  refine Tells.bind (Tells.loop (fun n t g' => g' = g ∧ ∃ i : Nat, t 6 = cv ∧ t 10 = allv ∧ t 13 = .sl bg 0 ats.length ats.length 1 true ∧ t 21 = I i ∧ i + n = ats.length) (Q := fun p g' => p.1 = .exit 8) ?_ ats.length _ _ ⟨rfl, 0, by simp [t6], by simp [t10], by simp [t13], by simp, by omega⟩) ?_
  · rintro n t g' ⟨rfl, i, t6, t10, t13, t21, hi⟩
    refine Tells.prot fun Q2 hQ2 => ?_
    unfold L_precentorlaw14_SeqNumbers_3
    have ocg := oc.ext xg
    simp [t21, t6, ocg.len]
    refine Tells.cb (fun hc => ?_) (fun hc => ?_)
    · simp at hc
      obtain ⟨e, he⟩ : ∃ e, ats[i]? = some e := ⟨_, List.getElem?_eq_getElem hc⟩
      have hbe2 : e.2.2 = brk ats i := by simp [brk, he]
      obtain ⟨br1, br2⟩ := brk_in ca hc
      obtain ⟨B, hB⟩ : ∃ B : Nat, brk ats i = B := ⟨(brk ats i).toNat, by omega⟩
      obtain ⟨y, hy1⟩ : ∃ y, l[B]? = some y := ⟨_, List.getElem?_eq_getElem (by omega)⟩
      have hy2 : (l.map (·.1))[B]? = some y.1 := by rw [List.getElem?_map, hy1]; rfl
      obtain ⟨b1, p1, B1, q1, q2, q3, q4, q5, _⟩ := at_at ocg he
      obtain ⟨b2, p2, B2, r1, r2, r3⟩ := ps_at sp hy2
      rw [hbe2, hB] at q5
      have hix := ixs_made (b := bg) (k := ats.length) (c := ats.length) (z := 1) (i := i) hc
      rw [Nat.mul_one] at hix
      have hca := fnC_at (f := f) hc
      have w : IntKind.i64.wrap ((i : Int) + 1) = i + 1 := wrap_id (by omega) (by omega)
      have hv : (if ownC (cB ats f B) i = true then cntC (cB ats f B) i else 0) = f i := by
        have hcn : cntC (cB ats f B) i = f i := by simp only [cntC, Int.toNat_natCast, cB_at hc, Option.getD_some, if_pos hB]
        have := hf i
        have ho : ownC (cB ats f B) i = true := by
          simp only [ownC, hcn, cB_len]
          simp [hc, this]
        rw [if_pos ho, hcn]
      simp [J_precentorlaw14_SeqNumbers_4, t6, t10, t13, t21, q1, q2, q5, r1, r2, r3]
      refine Tells.cbE (seq_CountG hX (sq.g B y hy1) (i : Int)) ?_
      rintro _ g ⟨rfl, rfl⟩
      rw [hv]
      simp [t13, t21, hix, og.1, hca, J_precentorlaw14_SeqNumbers_5, w]
      exact Tells.ok (hQ2 _ _ (.inl ⟨rfl, n - 1, by omega, rfl, i + 1, by simp [t6], by simp [t10], by simp [t13], by simp, by omega⟩))
    · exact Tells.ok (hQ2 _ _ (.inr ⟨by simp, rfl⟩))
  · rintro ⟨ex, t⟩ g rfl
    simp [J_precentorlaw14_SeqNumbers_2]
    refine Tells.bind (known_X hk g) ?_
    rintro _ g ⟨rfl, rfl⟩
    try simp
    exact Tells.ok (hQ _ _ rfl)
end
end Go.Proofs.Ytbkfamdkdjajjaa
