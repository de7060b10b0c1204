/-
  Texts of a claim, merged: HandH, HandS, SM1, Known0, Law11b, Law11c, SamM, Law11a, Law11d.
-/
import Derived.Test.YtooeiefgnhgbeaaM1
import Derived.Test.YtooeiefgnhgbeaaRawD
import Derived.Test.YtooeiefgnhgbeaaB2
import Derived.Test.YtooeiefgnhgbeaaSIds
import Derived.Test.YtooeiefgnhgbeaaRow0
import Derived.Test.YtooeiefgnhgbeaaABProg
import Derived.Test.YtooeiefgnhgbeaaSprecentorlaw11
set_option linter.unusedVariables false
set_option linter.unusedSimpArgs false
/-! What precentorhand's Filters tell. -/
namespace Go.Proofs.Ytooeiefgnhgbeaa
open Go.Ab

section
variable {X : XTab}

theorem FilterC (hX : OnlyKnown X) {h : Heap} {v : AVal} {fl : List Prd} (o : Sl prR h v fl) (hl : fl.length ≤ 1000) (hs : ∀ p, p ∈ fl → p.set.length ≤ 1000) :
    Tells (fun q => acallX Try.prog X q F_precentorhand_Filter [v] h) fun r h' => RowZ prF h.next h h' r fl ∧ Ext [] h h' := by
  refine R_precentorhand_Filter _ (hX _ _ rfl) ?_
  refine Tells.prot fun Q' hQ => ?_
  unfold S_precentorhand_Filter
  try simp
  refine Tells.bind (Tells.loop (fun n t g => ∃ i : Nat, t 0 = v ∧ t 4 = I i ∧ i + n = fl.length ∧ RowZ prF h.next h g (t 3) (fl.take i) ∧ Ext [] h g)
    (Q := fun p g => p.1 = .exit 0 ∧ RowZ prF h.next h g (p.2 3) fl ∧ Ext [] h g) ?_ fl.length _ _ ⟨0, by simp, by simp, by omega, by simpa using RowZ.nil, .refl⟩) ?_
  · rintro n t g ⟨i, t0, t4, hi, rz, xg⟩
    refine Tells.prot fun Q2 hQ2 => ?_
    unfold L_precentorhand_Filter_1
    have og := o.ext xg
    simp [t4, t0, og.len]
    refine Tells.cb (fun hc => ?_) (fun hc => ?_)
    · simp at hc
      obtain ⟨p, hp⟩ : ∃ p, fl[i]? = some p := ⟨_, List.getElem?_eq_getElem hc⟩
      have hps := hs p (List.mem_of_getElem? hp)
      obtain ⟨b, q, B, c, q1, q2, sv, rfl, os, _⟩ := og.at (n := 13) rfl (i := (i : Int)) (by omega) (by simpa using hp)
      have w : IntKind.i64.wrap ((i : Int) + 1) = i + 1 := wrap_id (by omega) (by omega)
      have q4 := q2.lda (n := 13) rfl
      have tk : fl.take (i + 1) = fl.take i ++ [p] := by rw [List.take_add_one, hp]; rfl
      simp [J_precentorhand_Filter_2, t0, t4, q1, q4]
      refine Tells.newSt (ds := prC p sv) (by rfl) (by rfl) (by rfl) (by simp [prC, vlC, os.one]) fun g1 bp op x1 l1 => ?_
      simp [prC, vlC, op.1]
      refine Tells.copy (os.ext x1) (by rfl) (by omega) (by decide) fun s2 g2 gs x2 w2 => ?_
      have op2 := op.e x2
      have rz2 := (rz.e x1).e x2
      try simp
      refine Tells.st1 op2 gs.1.cells gs.1.one (by simp [prC, vlC]) fun g3 op3 x3 => ?_
      have op3 : Ob g3 bp (prC p s2) := by simpa [prC, vlC] using op3
      have rz3 := rz2.extO x3 (by simpa using .inl op2.2.1)
      have n1 := xg.next
      have n2 := x1.next
      have n3 := x2.next
      have n4 := x3.next
      simp [op3.1, prC, vlC]
      refine Tells.appZ rz3 (by rfl) (by rfl) (x := p) (c := prC p s2) ⟨s2, rfl, gs.1.ext x3, fun d hd => ⟨?_, ?_⟩⟩ (by rfl) (by rfl) (by simp; omega) (by decide) (by omega) fun s4 g4 rz4 x4 y4 => ?_
      · rintro ⟨d', hd', e⟩
        have k1 := (w2 d hd).1
        rw [root_ext x3 (w2 d hd).2.2, root_ext x3 (by have := (rz2.1 d' hd').2.2; omega)] at e
        have k2 := root_le g2 d'
        have k3 := (rz.1 d' hd').2.2
        omega
      · have k1 := (w2 d hd).1
        rw [root_ext x3 (w2 d hd).2.2]
        omega
      · simp [J_precentorhand_Filter_3, t4, w]
        refine Tells.ok (hQ2 _ _ (.inl ⟨rfl, n - 1, by omega, i + 1, by simp [t0], by simp, by omega, by rw [tk]; simpa using rz4, ?_⟩))
        exact y4 [] (((xg.trans x1).trans x2).then x3 fun z hz => .inr (by simp at hz; omega))
    · simp at hc
      have hfl : fl.take i = fl := List.take_of_length_le (by omega)
      rw [hfl] at rz
      exact Tells.ok (hQ2 _ _ (.inr ⟨by simp, rfl, by simpa using rz, xg⟩))
  · rintro ⟨ex, t⟩ g ⟨rfl, rz, xg⟩
    simp [J_precentorhand_Filter_0]
    exact Tells.ok (hQ _ _ ⟨by simpa using rz, xg⟩)

/-- Names that do not fall. -/
def nmLe (a b : ByteArray) : Bool := Op.bytesLess a.toList b.toList || a.toList == b.toList
theorem nm_total : ∀ a, a ∈ names4 → ∀ b, b ∈ names4 → nmLe a b = false → nmLe b a = true := by decide +kernel
theorem nm_trans : ∀ a, a ∈ names4 → ∀ b, b ∈ names4 → ∀ c, c ∈ names4 → nmLe a b = true → nmLe b c = true → nmLe a c = true := by decide +kernel
def FedF (fl : List Prd) : Prop := fl.length ≤ 3 ∧ (∀ p, p ∈ fl → FedP p) ∧ fl.Pairwise fun p q => nmLe p.name q.name = true
theorem FedF.nil : FedF [] := ⟨by simp, by simp, by simp⟩
theorem FedP.set_le {p : Prd} (h : FedP p) : p.set.length ≤ 4 := by
  obtain ⟨_, h | h | h | h | h⟩ := h
  · rw [h.2.2.2]; simp
  · rw [h.2.2.2]; simp
  · exact h.2.2.2.2.1
  · rw [h.2.2.2]; simp
  · rw [h.2.2.2.2]; simp
/-- One more, in its place. -/
theorem FedF.ins {l : List Prd} {p : Prd} {j : Nat} (h : FedF l) (hp : FedP p) (h2 : l.length < 3) (hj : j ≤ l.length) (hi : ∀ x, x ∈ l.drop j → nmLe x.name p.name = false) (lo : 0 < j → ∀ x, l[j - 1]? = some x → nmLe x.name p.name = true) : FedF (l.take j ++ p :: l.drop j) := by
  obtain ⟨k1, k2, k3⟩ := h
  have up : ∀ x, x ∈ l.drop j → nmLe p.name x.name = true := fun x hx => nm_total _ (k2 x (List.mem_of_mem_drop hx)).1 _ hp.1 (hi x hx)
  have dn : ∀ x, x ∈ l.take j → nmLe x.name p.name = true := fun x hx => by
    by_cases h0 : 0 < j
    · have hlt : j - 1 < l.length := by omega
      have hl := List.getElem?_eq_getElem hlt
      have h3 := lo h0 _ hl
      obtain ⟨m, hm, e⟩ := List.getElem_of_mem hx
      simp at hm
      rw [List.getElem_take] at e
      by_cases hmj : m = j - 1
      · subst hmj; rw [← e]; exact h3
      · have := List.pairwise_iff_getElem.1 k3 m (j - 1) (by omega) hlt (by omega)
        rw [e] at this
        exact nm_trans _ (k2 x (List.mem_of_mem_take hx)).1 _ (k2 _ (List.getElem_mem hlt)).1 _ hp.1 this h3
    · have : j = 0 := by omega
      subst this
      simp at hx
  refine ⟨by simp; omega, fun x hx => ?_, ?_⟩
  · rcases List.mem_append.1 hx with q | q
    · exact k2 x (List.mem_of_mem_take q)
    · rcases List.mem_cons.1 q with q | q
      · rw [q]; exact hp
      · exact k2 x (List.mem_of_mem_drop q)
  · rw [List.pairwise_append]
    refine ⟨k3.take, List.pairwise_cons.2 ⟨up, k3.drop⟩, fun a ha b hb => ?_⟩
    rcases List.mem_cons.1 hb with q | q
    · rw [q]; exact dn a ha
    · rw [← List.take_append_drop j l, List.pairwise_append] at k3
      exact k3.2.2 a ha b q
theorem ins_list {α : Type} {l : List α} {z p : α} {j : Nat} (hj : j ≤ l.length) : ((l ++ [z]).take (j + 1) ++ ((l ++ [z]).drop j).take ((l ++ [z]).length - (j + 1))).set j p = l.take j ++ p :: l.drop j := by
  have e1 : ((l ++ [z]).drop j).take ((l ++ [z]).length - (j + 1)) = l.drop j := by
    rw [List.drop_append_of_le_length hj, List.take_append_of_le_length (by simp), List.take_of_length_le (by simp)]
  have e2 : ((l ++ [z]).take (j + 1)).length = j + 1 := by simp; omega
  have e3 : ((l ++ [z]).take (j + 1)).drop (j + 1) = [] := List.drop_eq_nil_of_le (by omega)
  rw [e1, List.set_append, if_pos (by omega), List.set_eq_take_append_cons_drop, if_pos (by omega), e3, List.take_take, Nat.min_eq_left (by omega), List.take_append_of_le_length hj]
  simp

def zeroP : Prd := ⟨bs [], 0, vlZ, vlZ, []⟩

theorem FilterH (hX : OnlyKnown X) {h : Heap} {bf k : Nat} (f : Feed h bf k) (hk : k < 2 ^ 59) :
    Tells (fun q => acallX Try.prog X q F_precentorhand_Feed_Filter [.ptr bf 0] h) fun r h' => ∃ fl, RowZ prF h.next h h' r fl ∧ FedF fl ∧ Ext [bf] h h' ∧ Feed h' bf (k + 60) := by
  refine R_precentorhand_Feed_Filter _ (hX _ _ rfl) ?_
  refine Tells.prot fun Q' hQ => ?_
  unfold S_precentorhand_Feed_Filter
  try simp
  refine Tells.bind (Next hX 4 ⟨by decide, by decide⟩ f (by omega)) ?_
  rintro _ h1 ⟨u, rfl, u0, u1, _, x1, f1⟩
  have u1 := u1 (by decide)
  have n1 := x1.next
  try simp
  refine Tells.bind (Tells.loop (fun n t g => ∃ (i : Nat) (l : List Prd), t 0 = .ptr bf 0 ∧ t 4 = I (u - i) ∧ (i : Int) ≤ u ∧ i + n = 5 ∧ RowZ prF h.next h g (t 3) l ∧ FedF l ∧ Ext [bf] h g ∧ Feed g bf (k + 1 + 14 * i))
    (Q := fun p g => p.1 = .exit 0 ∧ ∃ l : List Prd, RowZ prF h.next h g (p.2 3) l ∧ FedF l ∧ Ext [bf] h g ∧ Feed g bf (k + 60)) ?_ 5 _ _ ⟨0, [], by simp, by simp, by simp; omega, by omega, by simpa using RowZ.nil, FedF.nil, x1, by simpa using f1⟩) ?_
  · rintro n t g ⟨i, l, t0, t4, hiu, hi, rz, fl, xg, fg⟩
    refine Tells.prot fun Q2 hQ2 => ?_
    unfold L_precentorhand_Feed_Filter_1
    have ng := xg.next
    by_cases hc : 0 < u - i ∧ l.length < 3
    · obtain ⟨hc1, hc2⟩ := hc
      have hc3 : (i : Int) < u := by omega
      have hc4 : ((l.length : Int) < 3) := by omega
      simp [t4, hc1, hc3, rz.len, hc4, hc2, J_precentorhand_Feed_Filter_2, t0]
      refine Tells.bind (NameH hX fg (by omega)) ?_
      rintro _ g1 ⟨nm, rfl, hnm, y1, e1⟩
      have rz1 := rz.extO y1 (by simpa using .inl fg.m)
      have m1 := y1.next
      try simp [t0]
      refine Tells.bind (PredH hX e1 (by omega) hnm) ?_
      rintro _ g2 ⟨p, sv, rfl, hpn, hp, os, ws, y2, e2⟩
      have rz2 := rz1.extO y2 (by simpa using .inl e1.m)
      have m2 := y2.next
      try simp
      refine Tells.newSt (ds := prC p sv) (by rfl) (by rfl) (by rfl) (by simp [prC, vlC, os.one]) fun g3 bp op y3 l3 => ?_
      have rz3 := rz2.e y3
      have m3 := y3.next
      have hne : bf ≠ bp := by have := e2.lt; omega
      have e3 := e2.e y3
      have os3 := os.ext y3
      have X3 : Ext [bf] h g3 := ((xg.trans y1).trans y2).quiet y3
      have svn : ∀ d, d ∈ sv.blks → ¬ g3.isRoot (t 3) (g3.root d) ∧ h.next ≤ g3.root d ∧ g3.root d < g3.next := fun d hd => by
        obtain ⟨w1, w2, w3⟩ := ws d hd
        rw [root_ext y3 w3]
        have := root_le g2 d
        refine ⟨?_, by omega, by omega⟩
        rintro ⟨d', hd', e⟩
        have k3 := (rz1.1 d' hd').2.2
        rw [root_ext y3 (by omega), root_ext y2 k3] at e
        have k2 := root_le g1 d'
        omega
      try simp only [rz3.len, of_some, arb_val, lt_eq]
      try simp
      refine Tells.bind (Tells.loop (fun n t' g' => g' = g3 ∧ ∃ j : Nat, t' 0 = .ptr bf 0 ∧ t' 3 = t 3 ∧ t' 4 = I (u - i) ∧ t' 5 = .str nm ∧ t' 6 = .ptr bp 0 ∧ t' 7 = I j ∧ j = n ∧ j ≤ l.length ∧ ∀ x, x ∈ l.drop j → nmLe x.name nm = false)
        (Q := fun r g' => g' = g3 ∧ r.1 = .exit 2 ∧ ∃ j : Nat, r.2 0 = .ptr bf 0 ∧ r.2 3 = t 3 ∧ r.2 4 = I (u - i) ∧ r.2 5 = .str nm ∧ r.2 6 = .ptr bp 0 ∧ r.2 7 = I j ∧ j ≤ l.length ∧ (∀ x, x ∈ l.drop j → nmLe x.name nm = false) ∧ (0 < j → ∀ x, l[j - 1]? = some x → nmLe x.name nm = true)) ?_ l.length _ _ ⟨rfl, l.length, by simp [t0], by simp, by simp [t4], by simp, by simp, by simp, rfl, Nat.le_refl _, by simp⟩) ?_
      · rintro n' t' g' ⟨rfl, j, a0, a3, a4, a5, a6, a7, rfl, hj, hall⟩
        refine Tells.prot fun Q3 hQ3 => ?_
        unfold L_precentorhand_Feed_Filter_5
        by_cases h0 : 0 < j
        · obtain ⟨x, hx⟩ : ∃ x, l[j - 1]? = some x := ⟨_, List.getElem?_eq_getElem (by omega)⟩
          obtain ⟨b, q, B, c, q1, q2, sv', rfl, _⟩ := rz3.at (n := 13) rfl hx
          have w : IntKind.i64.wrap ((j : Int) - 1) = ((j - 1 : Nat) : Int) := by rw [wrap_id (by omega) (by omega)]; omega
          have q4 := q2.cell0 (by simp [prC])
          simp [prC] at q4
          have h0' : (0 : Int) < j := by omega
          simp [a7, h0, h0', a3, w, q1, q2.get, q4, a5]
          cases hle : nmLe x.name nm with
          | false =>
            have hle2 : (Op.bytesLess x.name.toList nm.toList || x.name.toList == nm.toList) = false := hle
            simp only [Bool.or_eq_false_iff] at hle2
            simp [hle2.1, hle2.2, J_precentorhand_Feed_Filter_6, a7, w]
            refine Tells.ok (hQ3 _ _ (.inl ⟨rfl, j - 1, by omega, rfl, j - 1, by simp [a0], by simp [a3], by simp [a4], by simp [a5], by simp [a6], by simp, rfl, by omega, fun z hz => ?_⟩))
            rw [List.drop_eq_getElem_cons (by omega), List.mem_cons] at hz
            rcases hz with q | q
            · rw [(List.getElem?_eq_some_iff.1 hx).2] at q
              rw [q]; exact hle
            · rw [show j - 1 + 1 = j by omega] at q
              exact hall z q
          | true =>
            have hle2 : (Op.bytesLess x.name.toList nm.toList || x.name.toList == nm.toList) = true := hle
            have done : ∀ t2 : T, t2 0 = t' 0 → t2 3 = t' 3 → t2 4 = t' 4 → t2 5 = t' 5 → t2 6 = t' 6 → t2 7 = t' 7 → Q3 (.exit 2, t2) g' := fun t2 b0 b3 b4 b5 b6 b7 => hQ3 _ _ (.inr ⟨by simp, rfl, rfl, j, b0.trans a0, b3.trans a3, b4.trans a4, b5.trans a5, b6.trans a6, b7.trans a7, hj, hall, fun _ z hz => by rw [hx] at hz; cases hz; exact hle⟩)
            rcases Bool.or_eq_true _ _ ▸ hle2 with q | q
            · simp [q]
              exact Tells.ok (done _ (by simp) (by simp) (by simp) (by simp) (by simp) (by simp))
            · simp [q]
              exact Tells.ok (done _ (by simp) (by simp) (by simp) (by simp) (by simp) (by simp))
        · have h0' : ¬ (0 : Int) < j := by omega
          simp [a7, h0, h0']
          exact Tells.ok (hQ3 _ _ (.inr ⟨by simp, rfl, rfl, j, by simp [a0], by simp [a3], by simp [a4], by simp [a5], by simp [a6], by simp [a7], hj, hall, fun q => absurd q h0⟩))
      · rintro ⟨ex, t'⟩ g' ⟨rfl, rfl, j, a0, a3, a4, a5, a6, a7, hj, hall, hlo⟩
        have a0 : t' 0 = .ptr bf 0 := a0
        have a3 : t' 3 = t 3 := a3
        have a4 : t' 4 = I (u - i) := a4
        have a6 : t' 6 = .ptr bp 0 := a6
        have a7 : t' 7 = I j := a7
        rw [← a3] at rz3 svn
        have wj : IntKind.i64.wrap ((j : Int) + 1) = (j : Int) + 1 := wrap_id (by omega) (by omega)
        have wu : IntKind.i64.wrap (u - (i : Int) - 1) = u - (i : Int) - 1 := wrap_id (by omega) (by omega)
        simp [J_precentorhand_Feed_Filter_4, bldR, fillR, splice]
        refine Tells.appZR rz3 (by rfl) (by rfl) (x := zeroP) (c := prC zeroP .nils) ⟨.nils, rfl, Sl.nil, fun c hc => by simp [AVal.blks] at hc⟩ (by rfl) (by rfl) (by omega) (by decide) (by omega) fun s4 g4 rz4 y4 z4 nr4 => ?_
        have m4 := y4.next
        have op4 := op.ext y4 (rz3.2.1.ob op)
        have e4 := e3.ext y4 (fun q => by have := (rz3.2.1.blk _ q).1; rw [e3.m] at this; cases this)
        have X4 := z4 [bf] X3
        obtain ⟨b5, d5, c5, v5, k1, k2, k3, k4, k5, g5, r5, k6, k7, rz5⟩ := rz4.cpy (n := 13) rfl (i := j) (by simp; omega)
        simp [a7, wj, k4, k5, k6]
        have op5 : Ob g5 bp (prC p sv) := op4.extC k7 k1
        have e5 := e4.extCX k7 k1 k3
        have os4 := os3.ext y4
        have ap5 : Apart g4 b5 sv := Apart.of fun c hc q => by
          obtain ⟨s1, s2, s3⟩ := svn c hc
          refine nr4 _ s3 s1 ⟨b5, by rw [v5]; simp, ?_⟩
          rw [← q, root_ext y4 (os3.blk c hc).2]
        have os5 : Sl vlR g5 sv p.set := os4.extC (fun q => q) k7 ap5
        have rep5 : (prF.r fun q => ¬ g5.isRoot s4 q ∧ h.next ≤ q).rep g5 (prC p sv) p := ⟨sv, rfl, os5, fun c hc => by
          obtain ⟨s1, s2, s3⟩ := svn c hc
          have er : g5.root c = g'.root c := by
            unfold Heap.root
            rw [k7.cls, y4.cls c (os3.blk c hc).2]
          rw [er]
          refine ⟨fun ⟨d, hd, e⟩ => nr4 _ s3 s1 ⟨d, hd, ?_⟩, s2⟩
          rw [e]
          unfold Heap.root
          rw [k7.cls]⟩
        obtain ⟨b6, q6, v6, i1, i2, i3, i4, i5, g6, i6, i7, rz6⟩ := rz5.putE (n := 13) rfl (i := j) (by simp; omega) rep5
        rw [ins_list hj] at rz6
        simp [a6, op5.1, a7, i5, i6 (.agg (prC p sv)) rfl, prC, vlC]
        have i6' := i6 (.agg (prC p sv)) rfl
        simp only [prC, vlC, List.cons_append, List.nil_append] at i6'
        simp [i6', J_precentorhand_Feed_Filter_3, a4, wu]
        have F6 : FedF (l.take j ++ p :: l.drop j) := fl.ins hp hc2 hj (by rw [hpn]; exact hall) (by rw [hpn]; exact hlo)
        refine Tells.ok (hQ2 _ _ (.inl ⟨rfl, n - 1, by omega, i + 1, _, by simp [a0], by simp; omega, by omega, by omega, by simpa using rz6, F6, (X4.extC k7 k2).extC i7 i3, (e5.extCX i7 i1 i4).mono (by omega)⟩))
    · have fin : ∀ t' : T, t' 3 = t 3 → Q2 (.exit 0, t') g := fun t' a3 => hQ2 _ _ (.inr ⟨by simp, rfl, l, by show RowZ prF h.next h g (t' 3) l; rw [a3]; exact rz, fl, xg, fg.mono (by omega)⟩)
      by_cases q : 0 < u - (i : Int)
      · have q2 : ¬ (l.length < 3) := fun k => hc ⟨q, k⟩
        have q3 : ¬ ((l.length : Int) < 3) := by omega
        have q4 : (i : Int) < u := by omega
        simp [t4, q, q4, rz.len, q2, q3]
        exact Tells.ok (fin _ (by simp))
      · have q4 : ¬ (i : Int) < u := by omega
        simp [t4, q, q4]
        exact Tells.ok (fin _ (by simp))
  · rintro ⟨ex, t⟩ g ⟨rfl, l, rz, fl, xg, fg⟩
    simp [J_precentorhand_Feed_Filter_0]
    exact Tells.ok (hQ _ _ ⟨l, by simpa using rz, fl, xg, fg⟩)
end
end Go.Proofs.Ytooeiefgnhgbeaa

/-! What precentorhand's Subs tells. -/
namespace Go.Proofs.Ytooeiefgnhgbeaa
open Go.Ab

/-- Rows of filters. -/
def flR : Rp (List Prd) := ⟨1, by decide, fun h cs fl => ∃ v, cs = [v] ∧ Sl prR h v fl, fun ⟨v, e, _⟩ => by rw [e]; rfl, fun ⟨v, e, o⟩ => by rw [e]; simp [o.one], fun ⟨v, e, o⟩ x => ⟨v, e, o.ext x⟩⟩

def Sx.lt (s s' : Sx) : Prop := s.c < s'.c ∨ (s.c = s'.c ∧ s.n < s'.n ∧ s.b = s'.b)
/-- Subscriptions that the feed tells; m: the brokers' greatest number. -/
structure FedS (m : Int) (l : List Sx) : Prop where
  f : ∀ s, s ∈ l → FedF s.fl ∧ 1 ≤ s.c ∧ s.c ≤ 6 ∧ 0 ≤ s.b ∧ s.b ≤ m ∧ 1 ≤ s.n ∧ s.n ≤ 6
  r : l.Pairwise Sx.lt
  t : ∀ (i : Nat) s s', l[i]? = some s → l[i + 3]? = some s' → s.c < s'.c
theorem FedS.nil (m : Int) : FedS m [] := ⟨by simp, by simp, by simp⟩

/-- While client c's are told: those of clients ahead, and its own. -/
structure FedQ (m : Int) (c b n : Int) (k : Nat) (l : List Sx) : Prop where
  s : FedS m l
  q : ∃ pre cur, l = pre ++ cur ∧ (∀ x, x ∈ pre → x.c < c) ∧ (∀ x, x ∈ cur → x.c = c ∧ x.b = b ∧ x.n ≤ n) ∧ cur.length = k
theorem FedQ.start {m c b : Int} {l : List Sx} (h : FedS m l) (hl : ∀ x, x ∈ l → x.c < c) : FedQ m c b 0 0 l := ⟨h, l, [], by simp, hl, by simp, rfl⟩
theorem FedQ.add {m c b n : Int} {k : Nat} {l : List Sx} (h : FedQ m c b n k l) (hk : k < 3) (hn : 0 ≤ n) (hc : 1 ≤ c ∧ c ≤ 6) (hb : 0 ≤ b ∧ b ≤ m) {n' : Int} (h1 : n < n') (h2 : n' ≤ 6) {fl : List Prd} (hf : FedF fl) : FedQ m c b n' (k + 1) (l ++ [⟨c, b, n', fl⟩]) := by
  obtain ⟨⟨s1, s2, s3⟩, pre, cur, rfl, q1, q2, q3⟩ := h
  refine ⟨⟨fun x hx => ?_, ?_, fun i x x' hx hx' => ?_⟩, pre, cur ++ [⟨c, b, n', fl⟩], by simp, q1, fun x hx => ?_, by simp; omega⟩
  · rcases List.mem_append.1 hx with q | q
    · exact s1 x q
    · simp at q; subst q; exact ⟨hf, hc.1, hc.2, hb.1, hb.2, by show 1 ≤ n'; omega, h2⟩
  · rw [List.pairwise_append]
    refine ⟨s2, by simp, fun x hx y hy => ?_⟩
    simp at hy
    subst hy
    rcases List.mem_append.1 hx with q | q
    · exact .inl (q1 x q)
    · obtain ⟨k1, k2, k3⟩ := q2 x q
      exact .inr ⟨k1, by show x.n < n'; omega, k2⟩
  · rcases Nat.lt_or_ge (i + 3) (pre ++ cur).length with q | q
    · rw [List.getElem?_append_left q] at hx'
      rw [List.getElem?_append_left (by omega)] at hx
      exact s3 i x x' hx hx'
    · rw [List.getElem?_append_right q] at hx'
      have e : i + 3 - (pre ++ cur).length = 0 := by
        cases h : i + 3 - (pre ++ cur).length with
        | zero => rfl
        | succ j => rw [h] at hx'; simp at hx'
      rw [e] at hx'
      simp at hx'
      subst hx'
      have hlen : (pre ++ cur).length = pre.length + cur.length := by simp
      rw [List.getElem?_append_left (by omega), List.getElem?_append_left (by omega)] at hx
      exact q1 x (List.mem_of_getElem? hx)
  · rcases List.mem_append.1 hx with q | q
    · obtain ⟨k1, k2, k3⟩ := q2 x q
      exact ⟨k1, k2, by omega⟩
    · simp at q; subst q; exact ⟨rfl, rfl, Int.le_refl _⟩
theorem FedQ.fin {m c b n : Int} {k : Nat} {l : List Sx} (h : FedQ m c b n k l) : FedS m l ∧ ∀ x, x ∈ l → x.c < c + 1 := by
  obtain ⟨s, pre, cur, rfl, q1, q2, q3⟩ := h
  refine ⟨s, fun x hx => ?_⟩
  rcases List.mem_append.1 hx with q | q
  · have := q1 x q; omega
  · have := (q2 x q).1; omega

section
variable {X : XTab}

theorem RowZ.freshR {h0 h1 h h' : Heap} {s v : AVal} {l : List Sx} {fl : List Prd} (rz : RowZ sxF h0.next h0 h s l) (rv : RowZ prF h1.next h1 h' v fl) (x : Ext [] h h') (hs : ∀ b, b ∈ s.blks → b < h1.next) (hl : h0.next ≤ h1.next) :
    Sl (prZ fun q => ¬ h'.isRoot s q ∧ h0.next ≤ q) h' v fl ∧ ∀ c, c ∈ v.blks → ¬ h'.isRoot s (h'.root c) ∧ h0.next ≤ h'.root c := by
  have key : ∀ q, h1.next ≤ q → ¬ h'.isRoot s q ∧ h0.next ≤ q := fun q hq => ⟨by
    rintro ⟨b, hb, rfl⟩
    have := root_le h' b
    have := hs b hb
    omega, by omega⟩
  exact ⟨rv.2.1.fam prF fun q _ z => key q z.2, fun c hc => key _ (rv.1 c hc).1⟩

theorem SubsH (hX : OnlyKnown X) {h : Heap} {bf k : Nat} (f : Feed h bf k) (hk : k < 2 ^ 57) {pv : AVal} {ps : List Int} (op : Sl intR h pv ps) (hp : ps.length ≤ 7) :
    Tells (fun q => acallX Try.prog X q F_precentorhand_Feed_Subs [.ptr bf 0, pv] h) fun r h' => ∃ l, RowZ sxF h.next h h' r l ∧ FedS ps.length l ∧ l.length ≤ 18 ∧ Ext [bf] h h' ∧ Feed h' bf (k + 1300) := by
  refine R_precentorhand_Feed_Subs _ _ (hX _ _ rfl) ?_
  refine Tells.prot fun Q' hQ => ?_
  unfold S_precentorhand_Feed_Subs
  try simp
  refine Tells.bind (FilterH hX f (by omega)) ?_
  rintro v1 h1 ⟨f1, rz1, ff1, x1, e1⟩
  try simp
  refine Tells.bind (FilterH hX e1 (by omega)) ?_
  rintro v2 h2 ⟨f2, rz2, ff2, x2, e2⟩
  have s1 : Sl prR h2 v1 f1 := rz1.sl.ext x2
  have s2 : Sl prR h2 v2 f2 := rz2.sl
  have s3 : Sl prR h2 .nils [] := Sl.nil
  try simp
  refine Tells.lit (r := flR) (xs := [f1, f2, []]) (css := [[v1], [v2], [.nils]]) (by rfl) ⟨⟨v1, rfl, s1⟩, ⟨v2, rfl, s2⟩, ⟨.nils, rfl, s3⟩, trivial⟩ (by rfl) (by rfl) (by simp [bslR, fillR, splice, s1.known, s1.cells, s2.known, s2.cells]) fun fv h3 gf x3 _ => ?_
  have e3 := e2.e x3
  have X3 : Ext [bf] h h3 := (x1.trans x2).quiet x3
  have ffs : ∀ (i : Nat) fl, [f1, f2, []][i]? = some fl → FedF fl := fun i fl hi => by
    match i, hi with
    | 0, hi => cases hi; exact ff1
    | 1, hi => cases hi; exact ff2
    | 2, hi => cases hi; exact FedF.nil
    | i + 3, hi => simp at hi
  have n3 := X3.next
  try simp
  refine Tells.bind (Tells.loop (fun n t g => ∃ (i : Nat) (l : List Sx), t 0 = .ptr bf 0 ∧ t 1 = pv ∧ t 6 = fv ∧ t 7 = I ((i : Int) + 1) ∧ i + n = 6 ∧ RowZ sxF h.next h3 g (t 5) l ∧ FedS ps.length l ∧ (∀ x, x ∈ l → x.c < (i : Int) + 1) ∧ l.length ≤ 3 * i ∧ Ext [bf] h3 g ∧ Feed g bf (k + 120 + 194 * i))
    (Q := fun p g => p.1 = .exit 0 ∧ ∃ l : List Sx, RowZ sxF h.next h3 g (p.2 5) l ∧ FedS ps.length l ∧ l.length ≤ 18 ∧ Ext [bf] h3 g ∧ Feed g bf (k + 1300)) ?_ 6 _ _ ⟨0, [], by simp, by simp, by simp, by simp, by omega, by simpa using RowZ.nil, FedS.nil _, by simp, by simp, .refl, by simpa using e3⟩) ?_
  · rintro n t g ⟨i, l, t0, t1, t6, t7, hi, rz, fs, lc, ll, xg, fg⟩
    refine Tells.prot fun Q2 hQ2 => ?_
    unfold L_precentorhand_Feed_Subs_1
    by_cases hc : i < 6
    · have hc' : (i : Int) + 1 ≤ 6 := by omega
      have og := (op.ext X3).ext xg
      have wp : IntKind.i64.wrap ((ps.length : Int) + 1) = ps.length + 1 := wrap_id (by omega) (by omega)
      have wi : IntKind.i64.wrap ((i : Int) + 1 + 1) = (i : Int) + 1 + 1 := wrap_id (by omega) (by omega)
      simp [t7, hc', J_precentorhand_Feed_Subs_2, t0, t1, og.len, wp]
      refine Tells.bind (Next hX ((ps.length : Int) + 1) ⟨by omega, by omega⟩ fg (by omega)) ?_
      rintro _ g1 ⟨home, rfl, hm0, hm1, _, y1, d1⟩
      have hm1 := hm1 (by omega)
      have rz1 := rz.extO y1 (by simpa using .inl fg.m)
      try simp [t0]
      refine Tells.bind (Next hX 4 ⟨by decide, by decide⟩ d1 (by omega)) ?_
      rintro _ g2 ⟨u, rfl, u0, u1, _, y2, d2⟩
      have u1 := u1 (by decide)
      obtain ⟨u, rfl⟩ : ∃ n : Nat, u = n := ⟨u.toNat, by omega⟩
      have rz2 := rz1.extO y2 (by simpa using .inl d1.m)
      have XG2 := (xg.trans y1).trans y2
      try simp
      refine Tells.bind (Tells.loop (fun n t g => ∃ (j : Nat) (num : Int) (l' : List Sx), t 0 = .ptr bf 0 ∧ t 1 = pv ∧ t 6 = fv ∧ t 7 = I ((i : Int) + 1) ∧ t 8 = I home ∧ t 9 = I num ∧ t 10 = I ((u : Int) - j) ∧ j + n = u ∧ 0 ≤ num ∧ num ≤ 2 * j ∧ RowZ sxF h.next h3 g (t 5) l' ∧ FedQ ps.length ((i : Int) + 1) home num j l' ∧ l'.length = l.length + j ∧ Ext [bf] h3 g ∧ Feed g bf (k + 120 + 194 * i + 2 + 64 * j))
        (Q := fun r g => r.1 = .exit 2 ∧ r.2 0 = .ptr bf 0 ∧ r.2 1 = pv ∧ r.2 6 = fv ∧ r.2 7 = I ((i : Int) + 1) ∧ ∃ l' : List Sx, RowZ sxF h.next h3 g (r.2 5) l' ∧ FedS ps.length l' ∧ (∀ x, x ∈ l' → x.c < (i : Int) + 1 + 1) ∧ l'.length ≤ l.length + 3 ∧ Ext [bf] h3 g ∧ Feed g bf (k + 120 + 194 * (i + 1))) ?_ u _ _ ⟨0, 0, l, by simp [t0], by simp [t1], by simp [t6], by simp [t7], by simp, by simp, by simp, by omega, by omega, by omega, by simpa using rz2, FedQ.start fs lc, by simp, XG2, by simpa using d2⟩) ?_
      · rintro n' t' g' ⟨j, num, l', a0, a1, a6, a7, a8, a9, a10, hj, hn0, hn1, rl, fq, hl', xg', fg'⟩
        refine Tells.prot fun Q3 hQ3 => ?_
        unfold L_precentorhand_Feed_Subs_4
        by_cases hc2 : j < u
        · have hc3 : (0 : Int) < (u : Int) - j := by omega
          have hc4 : (j : Int) < u := by omega
          have w1 : IntKind.i64.wrap (num + 1) = num + 1 := wrap_id (by omega) (by omega)
          simp [a10, hc2, hc3, hc4, J_precentorhand_Feed_Subs_5, a9, w1, a0]
          refine Tells.bind (Next hX 2 ⟨by decide, by decide⟩ fg' (by omega)) ?_
          rintro _ g3 ⟨r, rfl, r0, r1, _, y3, d3⟩
          have r1 := r1 (by decide)
          have w2 : IntKind.i64.wrap (num + 1 + r) = num + 1 + r := wrap_id (by omega) (by omega)
          have rl3 := rl.extO y3 (by simpa using .inl fg'.m)
          try simp [w2, a7, a8, a0]
          refine Tells.bind (FilterH hX d3 (by omega)) ?_
          rintro v4 g4 ⟨fl, rf, hfl, y4, d4⟩
          have rl4 := rl3.extO y4 (by simpa using .inl d3.m)
          have m4 := y4.next
          simp [bldR, fillR, splice, rf.2.1.known, rf.2.1.cells]
          refine Tells.newSt (ds := [I ((i : Int) + 1), I home, I (num + 1 + r), v4]) (by rfl) (by rfl) (by rfl) (by simp [rf.2.1.one]) fun g5 bs os y5 l5 => ?_
          have rl5 := rl4.e y5
          have d5 := d4.e y5
          have rf5 := rf.e y5
          have hne : bf ≠ bs := by have := d4.lt; omega
          have m5 := y5.next
          have ng' := xg'.next
          have m3 := y3.next
          have XG5 : Ext [bf] h3 g5 := ((xg'.trans y3).trans y4).quiet y5
          have sl3 : ∀ b, b ∈ (t' 5).blks → b < g3.next := fun b hb => (rl3.1 b hb).2.2
          have w3 : IntKind.i64.wrap ((u : Int) - j - 1) = (u : Int) - j - 1 := wrap_id (by omega) (by omega)
          -- what is appended
          have last : ∀ (t2 : T) (g6 : Heap) (v : AVal) (fl : List Prd) (K : Nat), K ≤ k + 120 + 194 * i + 2 + 64 * (j + 1) → t2 0 = .ptr bf 0 → t2 1 = pv → t2 5 = t' 5 → t2 6 = fv → t2 7 = I ((i : Int) + 1) → t2 8 = I home → t2 9 = I (num + 1 + r) → t2 10 = I ((u : Int) - j) → t2 11 = .ptr bs 0 → Ob g6 bs [I ((i : Int) + 1), I home, I (num + 1 + r), v] → FedF fl →
              RowZ sxF h.next h3 g6 (t' 5) l' → Sl (prZ fun q => ¬ g6.isRoot (t' 5) q ∧ h.next ≤ q) g6 v fl → (∀ c, c ∈ v.blks → ¬ g6.isRoot (t' 5) (g6.root c) ∧ h.next ≤ g6.root c) → Ext [bf] h3 g6 → Feed g6 bf K →
              Tells (fun m => J_precentorhand_Feed_Subs_7 Try.prog (acallX Try.prog X m) m (blkK 3 (sqK (J_precentorhand_Feed_Subs_6 Try.prog (acallX Try.prog X m) m okK) okK)) t2 g6) Q3 := by
            intro t2 g6 v fl K hK b0 b1 b5 b6 b7 b8 b9 b10 b11 o6 hfl r6 sv nv X6 f6
            simp [J_precentorhand_Feed_Subs_7, b5, b11, o6.1]
            refine Tells.appZ r6 (by rfl) (by rfl) (x := (⟨(i : Int) + 1, home, num + 1 + r, fl⟩ : Sx)) ⟨v, rfl, sv, nv⟩ (by rfl) (by rfl) (by omega) (by decide) X6.next fun s7 g7 r7 y7 z7 => ?_
            simp [J_precentorhand_Feed_Subs_6, b10, w3]
            have f7 := f6.ext y7 (fun q => by have := (r6.2.1.blk _ q).1; rw [f6.m] at this; cases this)
            exact Tells.ok (hQ3 _ _ (.inl ⟨rfl, n' - 1, by omega, j + 1, num + 1 + r, _, by simp [b0], by simp [b1], by simp [b6], by simp [b7], by simp [b8], by simp [b9], by simp; omega, by omega, by omega, by omega, by simpa using r7, fq.add (by omega) hn0 ⟨by omega, by omega⟩ ⟨hm0, by omega⟩ (by omega) (by omega) hfl, by simp; omega, z7 [bf] X6, f7.mono hK⟩))
          try simp [a0]
          refine Tells.bind (Next hX 6 ⟨by decide, by decide⟩ d5 (by omega)) ?_
          rintro _ g6 ⟨z, rfl, z0, z1, _, y6, d6⟩
          have m6 := y6.next
          have os6 := os.ext y6 (by simpa using hne.symm)
          have rl6 := rl5.extO y6 (by simpa using .inl d5.m)
          have rf6 := rf5.extO y6 (by simpa using .inl d5.m)
          have XG6 := XG5.trans y6
          have key : ∀ (gz : Heap) (v : AVal) (fl : List Prd) (hz : Heap), RowZ sxF h.next h3 gz (t' 5) l' → RowZ prF hz.next hz gz v fl → g3.next ≤ hz.next → h.next ≤ hz.next → Sl (prZ fun q => ¬ gz.isRoot (t' 5) q ∧ h.next ≤ q) gz v fl ∧ ∀ c, c ∈ v.blks → ¬ gz.isRoot (t' 5) (gz.root c) ∧ h.next ≤ gz.root c := fun gz v fl hz _ rv h1 h2 => by
            have key : ∀ q, hz.next ≤ q → ¬ gz.isRoot (t' 5) q ∧ h.next ≤ q := fun q hq => ⟨by
              rintro ⟨b, hb, rfl⟩
              have := root_le gz b
              have := sl3 b hb
              omega, by omega⟩
            exact ⟨rv.2.1.fam prF fun q _ z => key q z.2, fun c hc => key _ (rv.1 c hc).1⟩
          by_cases hz : z < 3
          · obtain ⟨z, rfl⟩ : ∃ n : Nat, z = n := ⟨z.toNat, by omega⟩
            obtain ⟨fz, hfz⟩ : ∃ fz, [f1, f2, []][z]? = some fz := ⟨_, List.getElem?_eq_getElem (by simp; omega)⟩
            have gf6 := gf.1.ext XG6
            obtain ⟨b, q, B, c, q1, q2, vz, rfl, oz⟩ := gf6.at (n := 1) rfl (i := (z : Int)) (by omega) (by simpa using hfz)
            have hff := ffs z fz hfz
            have q4 := q2.cell0 (by simp)
            simp at q4
            simp [hz, a6, q1, q2.get, q4]
            refine Tells.bind (FilterC hX oz (by have := hff.1; omega) (fun p hp => by have := (hff.2.1 p hp).set_le; omega)) ?_
            rintro v7 g7 ⟨r7, y7⟩
            have os7 := os6.e y7
            have rl7 := rl6.e y7
            have d7 := d6.e y7
            try simp
            refine Tells.st1 os7 r7.2.1.cells r7.2.1.one (by simp) fun g8 os8 y8 => ?_
            have os8 : Ob g8 bs [I ((i : Int) + 1), I home, I (num + 1 + r), v7] := by simpa using os8
            have rl8 := rl7.extO y8 (by simpa using .inl os7.2.1)
            have r8 := r7.extO y8 (by simpa using .inl os7.2.1)
            have d8 := d7.ext y8 (by simpa using hne)
            have X8 : Ext [bf] h3 g8 := (XG6.quiet y7).then y8 fun z hz => .inr (by simp at hz; omega)
            obtain ⟨k1, k2⟩ := key g8 v7 fz g6 rl8 r8 (by omega) (by omega)
            exact last _ g8 v7 fz _ (by omega) (by simp [a0]) (by simp [a1]) (by simp) (by simp [a6]) (by simp [a7]) (by simp [a8]) (by simp) (by simp [a10]) (by simp) os8 hff rl8 k1 k2 X8 d8
          · simp [hz]
            obtain ⟨k1, k2⟩ := key g6 v4 fl g3 rl6 rf6 (Nat.le_refl _) (by omega)
            exact last _ g6 v4 fl _ (by omega) (by simp [a0]) (by simp [a1]) (by simp) (by simp [a6]) (by simp [a7]) (by simp [a8]) (by simp) (by simp [a10]) (by simp) os6 hfl rl6 k1 k2 XG6 d6
        · have hc3 : ¬ (0 : Int) < (u : Int) - j := by omega
          have hc4 : ¬ (j : Int) < u := by omega
          obtain ⟨z1, z2⟩ := fq.fin
          simp [a10, hc2, hc3, hc4]
          exact Tells.ok (hQ3 _ _ (.inr ⟨by simp, rfl, by simp [a0], by simp [a1], by simp [a6], by simp [a7], l', by simpa using rl, z1, z2, by omega, xg', fg'.mono (by omega)⟩))
      · rintro ⟨ex, t'⟩ g' ⟨rfl, a0, a1, a6, a7, l', rl, z1, z2, hl', xg', fg'⟩
        have a7 : t' 7 = I ((i : Int) + 1) := a7
        have a0 : t' 0 = .ptr bf 0 := a0
        have a1 : t' 1 = pv := a1
        have a6 : t' 6 = fv := a6
        simp [J_precentorhand_Feed_Subs_3, a7, wi]
        exact Tells.ok (hQ2 _ _ (.inl ⟨rfl, n - 1, by omega, i + 1, l', by simp [a0], by simp [a1], by simp [a6], by simp, by omega, by simpa using rl, z1, by intro x hx; have := z2 x hx; omega, by omega, xg', fg'⟩))
    · have hc' : ¬ (i : Int) + 1 ≤ 6 := by omega
      simp [t7, hc']
      exact Tells.ok (hQ2 _ _ (.inr ⟨by simp, rfl, l, by simpa using rz, fs, by omega, xg, fg.mono (by omega)⟩))
  · rintro ⟨ex, t⟩ g ⟨rfl, l, rz, fs, hl, xg, fg⟩
    simp [J_precentorhand_Feed_Subs_0]
    exact Tells.ok (hQ _ _ ⟨l, by simpa using rz.back n3, fs, hl, X3.trans xg, fg⟩)
end
end Go.Proofs.Ytooeiefgnhgbeaa

/-! What the feed tells is right. -/
namespace Go.Proofs.Ytooeiefgnhgbeaa
open Go.Ab

theorem names4_word : ∀ n, n ∈ names4 → wordB n = true ∧ n.size < 2 ^ 63 := by decide +kernel
theorem texts6_size : ∀ s, s ∈ texts6 → s.size ≤ 12 := by decide +kernel
theorem texts4_size : ∀ s, s ∈ texts4 → s.size ≤ 12 := by decide +kernel
theorem ford00 : (ford 0 0 == some .eq) = true := by decide +kernel
theorem rightV_text {s : ByteArray} (h : s.size ≤ 12) : rightV ⟨3, 0, 0, s, false⟩ = true := by simp [rightV, x0B, ford00, h]
theorem rightV_fed {v : Vl} (h : FedV v) : rightV v = true := by
  rcases h with ⟨k, x, s, b, _⟩ | ⟨k, n, _, s, b⟩ | ⟨k, n, x, s, b⟩ | ⟨k, n, x, s⟩
  · simp [rightV, k, x0B, x, ford00, s0B, s, b]
  · simp [rightV, k, n, s0B, s, b]
  · have := texts6_size _ s
    simp [rightV, k, n, x0B, x, ford00, b, this]
  · simp [rightV, k, n, x0B, x, ford00, s0B, s]
theorem zeroB_z : zeroB vlZ = true := sameV_self vlZ
theorem rightP_fed {p : Prd} (h : FedP p) : rightP p = true := by
  obtain ⟨hn, h⟩ := h
  have hw := (names4_word _ hn).1
  rcases h with ⟨t, v, w, s⟩ | ⟨t, ⟨x, hx, v⟩, w, s⟩ | ⟨t, v, w, l1, l2, s⟩ | ⟨t, v, w, s⟩ | ⟨t1, t2, v, w, s⟩
  · simp [rightP, hw, t, v, w, s, zeroB_z]
  · have := rightV_text (texts4_size x hx)
    simp [rightP, hw, t, v, w, s, zeroB_z, this]
  · have : p.set.all rightV = true := List.all_eq_true.2 fun x hx => rightV_fed (s x hx)
    simp only [rightP, hw, t, v, w, zeroB_z, this, decide_eq_true l1, decide_eq_true l2]
    rfl
  · simp [rightP, hw, t, rightV_fed v, rightV_fed w, s]
  · have n1 : ¬ p.test = 1 := by omega
    simp [rightP, hw, n1, t1, t2, rightV_fed v, w, zeroB_z, s]
theorem rightFs_fed : ∀ {l : List Prd} {q : Option ByteArray}, (∀ p, p ∈ l → FedP p) → (l.Pairwise fun p q => nmLe p.name q.name = true) → (∀ n p, q = some n → p ∈ l → nmLe n p.name = true) → rightFs q l = true
  | [], _, _, _, _ => rfl
  | p :: l, q, h1, h2, h3 => by
    obtain ⟨k1, k2⟩ := List.pairwise_cons.1 h2
    have r := rightFs_fed (l := l) (q := some p.name) (fun x hx => h1 x (by simp [hx])) k2 fun n x e hx => by cases e; exact k1 x hx
    unfold rightFs
    rw [r, rightP_fed (h1 p (by simp)), Bool.and_true, Bool.true_and]
    cases q with
    | none => rfl
    | some n => exact h3 n p rfl (by simp)
theorem FedF.right {l : List Prd} (h : FedF l) : rightFl l = true := by
  unfold rightFl
  rw [decide_eq_true h.1, rightFs_fed h.2.1 h.2.2 (by simp)]
  rfl
theorem FedF.szn {l : List Prd} (h : FedF l) : l.length ≤ 1000 ∧ ∀ p, p ∈ l → SzN p := ⟨by have := h.1; omega, fun p hp => ⟨by have := (h.2.1 p hp).set_le; omega, (names4_word _ (h.2.1 p hp).1).2⟩⟩
theorem FedS.right {m : Int} {l : List Sx} (h : FedS m l) (hm : m ≤ 7) : rightS l = true := by
  refine rightS_true fun i hi => ?_
  have hs := List.getElem?_eq_getElem hi
  obtain ⟨k1, k2, k3, k4, k5, k6, k7⟩ := h.f _ (List.mem_of_getElem? hs)
  have hb : mayB l[i] = true := by
    simp only [mayB, decide_eq_true k2, decide_eq_true k3, decide_eq_true k4, decide_eq_true k6, k1.right, Bool.true_and, Bool.and_true]
    simp; omega
  have r1 : ∀ j, j < i → (hj : j < l.length) → Sx.lt l[j] l[i] := fun j hj hjl => List.pairwise_iff_getElem.1 h.r j i hjl hi hj
  simp only [okS, hs, hb, Bool.true_and]
  by_cases h0 : i = 0
  · simp [h0]
  · have e1 := List.getElem?_eq_getElem (show i - 1 < l.length by omega)
    have lt := r1 (i - 1) (by omega) (by omega)
    have c1 : ((decide (l[i - 1].c < l[i].c) || (l[i - 1].c == l[i].c && decide (l[i - 1].n < l[i].n))) && !(l[i - 1].c == l[i].c && l[i - 1].b != l[i].b)) = true := by
      rcases lt with q | ⟨q1, q2, q3⟩
      · have : (l[i - 1].c == l[i].c) = false := beq_eq_false_iff_ne.2 (by omega)
        simp [q, this]
      · simp [q1, q2, q3]
    simp only [h0, if_false, e1, c1, Bool.true_and]
    by_cases h3 : i < 3
    · simp [h3]
    · have e3 := List.getElem?_eq_getElem (show i - 3 < l.length by omega)
      have := h.t (i - 3) _ _ e3 (by rw [show i - 3 + 3 = i by omega]; exact hs)
      simp only [h3, if_false, e3]
      simp; omega
end Go.Proofs.Ytooeiefgnhgbeaa

/-! The package's closed example; pointers beside nil. -/
namespace Go.Proofs.Ytooeiefgnhgbeaa
open Go.Ab

theorem known_X {X : XTab} {F : FuncId} (hk : X F [] = some (.bool true)) (h : Heap) : Tells (fun m => acallX Try.prog X m F [] h) fun a h' => a = .bool true ∧ h' = h :=
  ⟨.bool true, h, ⟨rfl, rfl⟩, 1, fun m hm => by
    obtain ⟨k, rfl⟩ : ∃ k, m = k + 1 := ⟨m - 1, by omega⟩
    simp only [acallX, hk]⟩
theorem ptr_nil {t e : TypeId} (hu : Try.prog.underlying t = some (.pointer e)) (o1 o2 : Operand) (b p : Nat) : aBin Try.prog .eql t o1 o2 (.ptr b p) .nilp = some (.bool false) := by
  simp only [aBin, AVal.toV, aNilCmp, hu, nilRes]
theorem ptr_nil' {t e : TypeId} (hu : Try.prog.underlying t = some (.pointer e)) (o1 o2 : Operand) (b p : Nat) : aBin Try.prog .neq t o1 o2 (.ptr b p) .nilp = some (.bool true) := by
  simp only [aBin, AVal.toV, aNilCmp, hu, nilRes]
end Go.Proofs.Ytooeiefgnhgbeaa

/-! Law SubsMap: one client and number. -/
namespace Go.Proofs.Ytooeiefgnhgbeaa
open Go.Ab

theorem keyI_eq {k j : Nat} (hj : j < 9) : keyI (9 * k + j) = sameK ((k : Int) + 1) ((j : Int) + 1) := by
  unfold keyI
  rw [show (9 * k + j) / 9 = k by omega, show (9 * k + j) % 9 = j by omega]

/-- What stays in the loops over clients and numbers. -/
structure MV (t : T) (g : Heap) (av cv bv : AVal) (a b : List Sx) (ch : List Cg) : Prop where
  t7 : t 7 = av
  t8 : t 8 = cv
  t10 : t 10 = bv
  oa : Sl sxR g av a
  oc : Sl cgR g cv ch
  ob : Sl sxR g bv b
theorem MV.of {t t' : T} {g g' : Heap} {av cv bv : AVal} {a b : List Sx} {ch : List Cg} {S : List Nat} (m : MV t g av cv bv a b ch) (x : Ext S g g') (e7 : t' 7 = t 7) (e8 : t' 8 = t 8) (e10 : t' 10 = t 10) : MV t' g' av cv bv a b ch :=
  ⟨e7.trans m.t7, e8.trans m.t8, e10.trans m.t10, m.oa.ext x, m.oc.ext x, m.ob.ext x⟩

structure Mk (a b : List Sx) (ch : List Cg) : Prop where
  sa : Srt a
  e : b = ch.foldl appL a
  la : a.length ≤ 18
  lc : ch.length ≤ 9
  za : SzS a
  zb : SzS b
  xb : ∀ s, s ∈ b → SzX s
  kb : ∀ s, s ∈ b → 1 ≤ s.c ∧ s.c ≤ 6 ∧ 1 ≤ s.n ∧ s.n ≤ 9

section
variable {X : XTab} {t : T} {g : Heap} {av cv bv : AVal} {a b : List Sx} {ch : List Cg} {c n N : Int}

/-- Is it found again? -/
theorem map_found (hX : OnlyKnown X) (mk : Mk a b ch) {g0 : Heap} {bx : Nat} {xv mv : AVal} {x : Sx} {mine : List Sx} (mi : MV t g av cv bv a b ch) (om : Sl sxR g mv mine) (ol : mine.length ≤ 1000) (zm : ∀ s, s ∈ mine → SzX s) (ox : Ob g bx (sxC x xv)) (of_ : Sl prR g xv x.fl) (zx : ∀ p, p ∈ x.fl → SzP p) (hx : mine.any (fun z => z.n == n && sameL samePr z.fl x.fl) = true)
    (t12 : t 12 = I N) (t13 : t 13 = I c) (t14 : t 14 = I n) (t16 : t 16 = .ptr bx 0) (t19 : t 19 = mv) (t20 : t 20 = .bool false) (t21 : t 21 = I 0) :
    Tells (fun m => loopN (L_precentorlaw11_SubsMap_13 Try.prog (acallX Try.prog X m) m) m t g) fun r g' => r.1 = .exit 12 ∧ MV r.2 g' av cv bv a b ch ∧ r.2 12 = I N ∧ r.2 13 = I c ∧ r.2 14 = I n ∧ r.2 20 = .bool true ∧ Ext [] g g' := by
  refine Tells.loop (fun k t g' => ∃ i : Nat, MV t g' av cv bv a b ch ∧ t 12 = I N ∧ t 13 = I c ∧ t 14 = I n ∧ t 16 = .ptr bx 0 ∧ t 19 = mv ∧ t 20 = .bool ((mine.take i).any fun z => z.n == n && sameL samePr z.fl x.fl) ∧ t 21 = I i ∧ i + k = mine.length ∧ Ext [] g g') ?_ mine.length _ _ ⟨0, mi, t12, t13, t14, t16, t19, by simpa using t20, t21, by omega, .refl⟩
  rintro k t g' ⟨i, mi, t12, t13, t14, t16, t19, t20, t21, hi, xg⟩
  refine Tells.prot fun Q2 hQ2 => ?_
  unfold L_precentorlaw11_SubsMap_13
  have og := om.ext xg
  have ox' := ox.e xg
  have of' := of_.ext xg
  simp [t21, t19, og.len]
  refine Tells.cb (fun hc => ?_) (fun hc => ?_)
  · simp at hc
    obtain ⟨z, hz⟩ : ∃ z, mine[i]? = some z := ⟨_, List.getElem?_eq_getElem hc⟩
    obtain ⟨b1, p1, B1, c1, q1, q2, zv, rfl, oz, _⟩ := og.at (n := 4) rfl (i := (i : Int)) (by omega) (by simpa using hz)
    have q42 := q2.cell (k := 2) (by simp [sxC])
    have q43 := q2.cell (k := 3) (by simp [sxC])
    simp [sxC] at q42 q43
    have w : IntKind.i64.wrap ((i : Int) + 1) = i + 1 := wrap_id (by omega) (by omega)
    have tk : (mine.take (i + 1)).any (fun z => z.n == n && sameL samePr z.fl x.fl) = ((mine.take i).any (fun z => z.n == n && sameL samePr z.fl x.fl) || (z.n == n && sameL samePr z.fl x.fl)) := by
      rw [List.take_add_one, hz, List.any_append]; simp
    have fin : ∀ (t2 : T) (g2 : Heap), MV t2 g2 av cv bv a b ch → t2 12 = I N → t2 13 = I c → t2 14 = I n → t2 16 = .ptr bx 0 → t2 19 = mv → t2 20 = .bool ((mine.take (i + 1)).any fun z => z.n == n && sameL samePr z.fl x.fl) → t2 21 = I i → Ext [] g g2 →
        Tells (fun m => J_precentorlaw11_SubsMap_15 Try.prog (acallX Try.prog X m) m okK t2 g2) Q2 := fun t2 g2 m2 a12 a13 a14 a16 a19 a20 a21 x2 => by
      simp [J_precentorlaw11_SubsMap_15, a21, w]
      exact Tells.ok (hQ2 _ _ (.inl ⟨rfl, k - 1, by omega, i + 1, m2.of .refl (S := []) (by simp) (by simp) (by simp), by simp [a12], by simp [a13], by simp [a14], by simp [a16], by simp [a19], by simpa using a20, by simp, by omega, x2⟩))
    cases e0 : (mine.take i).any (fun z => z.n == n && sameL samePr z.fl x.fl) with
    | true =>
      rw [e0] at t20
      simp [J_precentorlaw11_SubsMap_14, t20]
      exact fin _ _ (mi.of .refl (S := []) (by simp) (by simp) (by simp)) (by simp [t12]) (by simp [t13]) (by simp [t14]) (by simp [t16]) (by simp [t19]) (by rw [tk, e0]; simp) (by simp [t21]) xg
    | false =>
      rw [e0] at t20
      cases e1 : (z.n == n) with
      | false =>
        simp [J_precentorlaw11_SubsMap_14, t20, t19, t21, q1, q2.get, q42, t14, e1]
        exact fin _ _ (mi.of .refl (S := []) (by simp) (by simp) (by simp)) (by simp [t12]) (by simp [t13]) (by simp [t14]) (by simp [t16]) (by simp [t19]) (by rw [tk, e0, e1]; simp) (by simp [t21]) xg
      | true =>
        simp [J_precentorlaw11_SubsMap_14, t20, t19, t21, q1, q2.get, q42, q43, t14, e1, t16, ox'.1, sxC]
        refine Tells.cbE (filter_Same hX oz of' (by have := zm z (List.mem_of_getElem? hz); exact this.1) (zm z (List.mem_of_getElem? hz)).2 zx) ?_
        rintro _ g2 ⟨rfl, x2⟩
        try simp
        exact fin _ _ (mi.of x2 (by simp) (by simp) (by simp)) (by simp [t12]) (by simp [t13]) (by simp [t14]) (by simp [t16]) (by simp [t19]) (by rw [tk, e0, e1]; simp) (by simp [t21]) (xg.trans x2)
  · simp at hc
    rw [List.take_of_length_le (by omega), hx] at t20
    exact Tells.ok (hQ2 _ _ (.inr ⟨by simp, rfl, mi.of .refl (S := []) (by simp) (by simp) (by simp), by simp [t12], by simp [t13], by simp [t14], by simp [t20], xg⟩))

/-- The one that a has. -/
theorem map_lastA (hX : OnlyKnown X) (mk : Mk a b ch) {g0 : Heap} {bx : Nat} {v15 : AVal} {x0 : Sx} {xv0 : AVal} (x00 : Ext [] g0 g) (hbx : g0.next ≤ bx) (mi : MV t g av cv bv a b ch) (ox : Ob g bx (sxC x0 xv0)) (of_ : Sl prR g xv0 x0.fl)
    (t12 : t 12 = I N) (t13 : t 13 = I c) (t14 : t 14 = I n) (t15 : t 15 = v15) (t16 : t 16 = .ptr bx 0) (t17 : t 17 = I 0) :
    Tells (fun m => loopN (L_precentorlaw11_SubsMap_19 Try.prog (acallX Try.prog X m) m) m t g) fun r g' => r.1 = .exit 8 ∧ MV r.2 g' av cv bv a b ch ∧ r.2 12 = I N ∧ r.2 13 = I c ∧ r.2 14 = I n ∧ r.2 15 = v15 ∧ r.2 16 = .ptr bx 0 ∧ Ext [] g0 g' ∧ ∃ xv, Ob g' bx (sxC (lastS c n x0 a) xv) ∧ Sl prR g' xv (lastS c n x0 a).fl := by
  refine Tells.loop (fun k t g' => ∃ (i : Nat) (xv : AVal), MV t g' av cv bv a b ch ∧ t 12 = I N ∧ t 13 = I c ∧ t 14 = I n ∧ t 15 = v15 ∧ t 16 = .ptr bx 0 ∧ t 17 = I i ∧ i + k = a.length ∧ Ext [] g0 g' ∧ Ob g' bx (sxC (lastS c n x0 (a.take i)) xv) ∧ Sl prR g' xv (lastS c n x0 (a.take i)).fl) ?_ a.length _ _ ⟨0, xv0, mi, t12, t13, t14, t15, t16, t17, by omega, x00, by simpa [lastS] using ox, by simpa [lastS] using of_⟩
  rintro k t g' ⟨i, xv, mi, t12, t13, t14, t15, t16, t17, hi, xg, ox, of_⟩
  refine Tells.prot fun Q2 hQ2 => ?_
  unfold L_precentorlaw11_SubsMap_19
  have la := mk.la
  simp [t17, mi.t7, mi.oa.len]
  refine Tells.cb (fun hc => ?_) (fun hc => ?_)
  · simp at hc
    obtain ⟨z, hz⟩ : ∃ z, a[i]? = some z := ⟨_, List.getElem?_eq_getElem hc⟩
    obtain ⟨b1, p1, B1, c1, q1, q2, zv, rfl, oz, _⟩ := mi.oa.at (n := 4) rfl (i := (i : Int)) (by omega) (by simpa using hz)
    have q40 := q2.cell0 (by simp [sxC])
    have q42 := q2.cell (k := 2) (by simp [sxC])
    simp [sxC] at q40 q42
    have q4 := q2.lda (n := 4) rfl
    have q4b : (if p1 + 4 ≤ B1.length then some (AVal.agg (List.take 4 (List.drop p1 B1))) else none) = some (.agg (sxC z zv)) := by
      have := q4
      simpa [q2.get] using this
    have w : IntKind.i64.wrap ((i : Int) + 1) = i + 1 := wrap_id (by omega) (by omega)
    have tk : lastS c n x0 (a.take (i + 1)) = if sameK c n z = true then z else lastS c n x0 (a.take i) := by
      unfold lastS
      rw [List.take_add_one, hz, List.foldl_append]
      rfl
    have go : sameK c n z = false → ∀ t2 : T, t2 7 = t 7 → t2 8 = t 8 → t2 10 = t 10 → t2 12 = I N → t2 13 = I c → t2 14 = I n → t2 15 = v15 → t2 16 = .ptr bx 0 → t2 17 = I i → Tells (fun m => J_precentorlaw11_SubsMap_21 Try.prog (acallX Try.prog X m) m okK t2 g') Q2 := fun e t2 a7 a8 a10 a12 a13 a14 a15 a16 a17 => by
      simp [J_precentorlaw11_SubsMap_21, a17, w]
      refine Tells.ok (hQ2 _ _ (.inl ⟨rfl, k - 1, by omega, i + 1, xv, mi.of .refl (S := []) (by simp [a7]) (by simp [a8]) (by simp [a10]), by simp [a12], by simp [a13], by simp [a14], by simp [a15], by simp [a16], by simp, by omega, xg, ?_, ?_⟩))
      · rw [tk, e]; simpa using ox
      · rw [tk, e]; simpa using of_
    by_cases c1 : z.c = c
    · by_cases c2 : z.n = n
      · have e : sameK c n z = true := by simp [sameK, c1, c2]
        simp [J_precentorlaw11_SubsMap_20, mi.t7, t17, q1, q2.get, q40, q42, t13, t14, c1, c2, q4b, t16]
        refine Tells.stN ox (ds := sxC z zv) (by rfl) (by rfl) (by simp [sxC, oz.one]) (by rfl) fun g2 o2 x2 => ?_
        simp [J_precentorlaw11_SubsMap_21, t17, w]
        refine Tells.ok (hQ2 _ _ (.inl ⟨rfl, k - 1, by omega, i + 1, zv, mi.of x2 (by simp) (by simp) (by simp), by simp [t12], by simp [t13], by simp [t14], by simp [t15], by simp [t16], by simp, by omega, xg.then x2 fun y hy => .inr (by simp at hy; omega), ?_, ?_⟩))
        · rw [tk, e]; simpa using o2
        · rw [tk, e]; simpa using oz.ext x2
      · have e : sameK c n z = false := by simp [sameK, c2]
        simp [J_precentorlaw11_SubsMap_20, mi.t7, t17, q1, q2.get, q40, q42, t13, t14, c1, beq_eq_false_iff_ne.2 c2]
        exact go e _ (by simp [mi.t7]) (by simp) (by simp) (by simp [t12]) (by simp [t13]) (by simp [t14]) (by simp [t15]) (by simp [t16]) (by simp [t17])
    · have e : sameK c n z = false := by simp [sameK, c1]
      simp [J_precentorlaw11_SubsMap_20, mi.t7, t17, q1, q2.get, q40, q42, t13, t14, beq_eq_false_iff_ne.2 c1]
      exact go e _ (by simp [mi.t7]) (by simp) (by simp) (by simp [t12]) (by simp [t13]) (by simp [t14]) (by simp [t15]) (by simp [t16]) (by simp [t17])
  · simp at hc
    rw [List.take_of_length_le (by omega)] at ox of_
    exact Tells.ok (hQ2 _ _ (.inr ⟨by simp, rfl, mi.of .refl (S := []) (by simp) (by simp) (by simp), by simp [t12], by simp [t13], by simp [t14], by simp [t15], by simp [t16], xg, xv, ox, of_⟩))

/-- What came, or went, last. -/
theorem map_scan (hX : OnlyKnown X) (mk : Mk a b ch) {g0 : Heap} {bx : Nat} {st0 : Bool × Sx} {xv0 : AVal} (x00 : Ext [] g0 g) (hbx : g0.next ≤ bx) (mi : MV t g av cv bv a b ch) (ox : Ob g bx (sxC st0.2 xv0)) (of_ : Sl prR g xv0 st0.2.fl)
    (t12 : t 12 = I N) (t13 : t 13 = I c) (t14 : t 14 = I n) (t15 : t 15 = .bool st0.1) (t16 : t 16 = .ptr bx 0) (t18 : t 18 = I 0) :
    Tells (fun m => loopN (L_precentorlaw11_SubsMap_16 Try.prog (acallX Try.prog X m) m) m t g) fun r g' => r.1 = .exit 10 ∧ MV r.2 g' av cv bv a b ch ∧ r.2 12 = I N ∧ r.2 13 = I c ∧ r.2 14 = I n ∧ r.2 15 = .bool (ch.foldl (step21 c n) st0).1 ∧ r.2 16 = .ptr bx 0 ∧ Ext [] g0 g' ∧ ∃ xv, Ob g' bx (sxC (ch.foldl (step21 c n) st0).2 xv) ∧ Sl prR g' xv (ch.foldl (step21 c n) st0).2.fl := by
  refine Tells.loop (fun k t g' => ∃ (i : Nat) (xv : AVal), MV t g' av cv bv a b ch ∧ t 12 = I N ∧ t 13 = I c ∧ t 14 = I n ∧ t 15 = .bool ((ch.take i).foldl (step21 c n) st0).1 ∧ t 16 = .ptr bx 0 ∧ t 18 = I i ∧ i + k = ch.length ∧ Ext [] g0 g' ∧ Ob g' bx (sxC ((ch.take i).foldl (step21 c n) st0).2 xv) ∧ Sl prR g' xv ((ch.take i).foldl (step21 c n) st0).2.fl) ?_ ch.length _ _ ⟨0, xv0, mi, t12, t13, t14, by simpa using t15, t16, t18, by omega, x00, by simpa using ox, by simpa using of_⟩
  rintro k t g' ⟨i, xv, mi, t12, t13, t14, t15, t16, t18, hi, xg, ox, of_⟩
  refine Tells.prot fun Q2 hQ2 => ?_
  unfold L_precentorlaw11_SubsMap_16
  have lc := mk.lc
  simp [t18, mi.t8, mi.oc.len]
  refine Tells.cb (fun hc => ?_) (fun hc => ?_)
  · simp at hc
    obtain ⟨z, hz⟩ : ∃ z, ch[i]? = some z := ⟨_, List.getElem?_eq_getElem hc⟩
    obtain ⟨b1, p1, B1, c1, q1, q2, zv, rfl, oz, _⟩ := mi.oc.at (n := 5) rfl (i := (i : Int)) (by omega) (by simpa using hz)
    have q40 := q2.cell0 (by simp [sxC])
    have q41 := q2.cell (k := 1) (by simp [sxC])
    have q43 := q2.cell (k := 3) (by simp [sxC])
    simp [sxC] at q40 q41 q43
    have sub := q2.sub 1 4 (by simp [sxC])
    have q4 := sub.lda (n := 4) (by simp [sxC])
    have q4b : (if p1 + 1 + 4 ≤ B1.length then some (AVal.agg (List.take 4 (List.drop (p1 + 1) B1))) else none) = some (.agg (sxC z.s zv)) := by
      have := q4
      simpa [q2.get, sxC] using this
    have w : IntKind.i64.wrap ((i : Int) + 1) = i + 1 := wrap_id (by omega) (by omega)
    have tk : (ch.take (i + 1)).foldl (step21 c n) st0 = step21 c n ((ch.take i).foldl (step21 c n) st0) z := by
      rw [List.take_add_one, hz, List.foldl_append]
      rfl
    have go : sameK c n z.s = false → ∀ t2 : T, t2 7 = t 7 → t2 8 = t 8 → t2 10 = t 10 → t2 12 = I N → t2 13 = I c → t2 14 = I n → t2 15 = t 15 → t2 16 = .ptr bx 0 → t2 18 = I i → Tells (fun m => J_precentorlaw11_SubsMap_18 Try.prog (acallX Try.prog X m) m okK t2 g') Q2 := fun e t2 a7 a8 a10 a12 a13 a14 a15 a16 a18 => by
      have e2 : step21 c n ((ch.take i).foldl (step21 c n) st0) z = (ch.take i).foldl (step21 c n) st0 := by unfold step21; rw [if_neg (by simp [e])]
      simp [J_precentorlaw11_SubsMap_18, a18, w]
      refine Tells.ok (hQ2 _ _ (.inl ⟨rfl, k - 1, by omega, i + 1, xv, mi.of .refl (S := []) (by simp [a7]) (by simp [a8]) (by simp [a10]), by simp [a12], by simp [a13], by simp [a14], by rw [tk, e2]; simp [a15, t15], by simp [a16], by simp, by omega, xg, ?_, ?_⟩))
      · rw [tk, e2]; exact ox
      · rw [tk, e2]; exact of_
    by_cases c1 : z.s.c = c
    · by_cases c2 : z.s.n = n
      · have e : sameK c n z.s = true := by simp [sameK, c1, c2]
        have e2 : step21 c n ((ch.take i).foldl (step21 c n) st0) z = (!z.gone, z.s) := by unfold step21; rw [if_pos e]
        simp [J_precentorlaw11_SubsMap_17, mi.t8, t18, q1, q2.get, q40, q41, q43, t13, t14, c1, c2, q4b, t16]
        refine Tells.stN ox (ds := sxC z.s zv) (by rfl) (by rfl) (by simp [sxC, oz.one]) (by rfl) fun g2 o2 x2 => ?_
        simp [J_precentorlaw11_SubsMap_18, t18, w]
        refine Tells.ok (hQ2 _ _ (.inl ⟨rfl, k - 1, by omega, i + 1, zv, mi.of x2 (by simp) (by simp) (by simp), by simp [t12], by simp [t13], by simp [t14], by rw [tk, e2]; simp, by simp [t16], by simp, by omega, xg.then x2 fun y hy => .inr (by simp at hy; omega), ?_, ?_⟩))
        · rw [tk, e2]; exact o2
        · rw [tk, e2]; exact oz.ext x2
      · have e : sameK c n z.s = false := by simp [sameK, c2]
        simp [J_precentorlaw11_SubsMap_17, mi.t8, t18, q1, q2.get, q40, q41, q43, t13, t14, c1, beq_eq_false_iff_ne.2 c2]
        exact go e _ (by simp) (by simp [mi.t8]) (by simp) (by simp [t12]) (by simp [t13]) (by simp [t14]) (by simp) (by simp [t16]) (by simp [t18])
    · have e : sameK c n z.s = false := by simp [sameK, c1]
      simp [J_precentorlaw11_SubsMap_17, mi.t8, t18, q1, q2.get, q40, q41, q43, t13, t14, beq_eq_false_iff_ne.2 c1]
      exact go e _ (by simp) (by simp [mi.t8]) (by simp) (by simp [t12]) (by simp [t13]) (by simp [t14]) (by simp) (by simp [t16]) (by simp [t18])
  · simp at hc
    rw [List.take_of_length_le (by omega)] at ox of_ t15
    exact Tells.ok (hQ2 _ _ (.inr ⟨by simp, rfl, mi.of .refl (S := []) (by simp) (by simp) (by simp), by simp [t12], by simp [t13], by simp [t14], by simp [t15], by simp [t16], xg, xv, ox, of_⟩))
end
end Go.Proofs.Ytooeiefgnhgbeaa

/-! Law SubsMap: the walk. -/
namespace Go.Proofs.Ytooeiefgnhgbeaa
open Go.Ab

section
variable {X : XTab} {t : T} {g : Heap} {av cv bv : AVal} {a b : List Sx} {ch : List Cg} {c n N : Int}

theorem scan_Kn {c n : Int} : ∀ (ch : List Cg) {st : Bool × Sx} {l : List Sx}, Kn21 c n st l → Srt l → Kn21 c n (ch.foldl (step21 c n) st) (ch.foldl appL l)
  | [], _, _, k, _ => k
  | g :: ch, _, _, k, hs => scan_Kn ch (k.step hs g) (hs.app g)

theorem map_one (hX : OnlyKnown X) (mk : Mk a b ch) (mi : MV t g av cv bv a b ch) (t12 : t 12 = I N) (t13 : t 13 = I c) (t14 : t 14 = I n) (hN : 0 ≤ N ∧ N ≤ 1000) (hn : 1 ≤ n ∧ n ≤ 9) {Q : Ex × T → Heap → Prop}
    (hQ : ∀ (t' : T) (g' : Heap), MV t' g' av cv bv a b ch → t' 12 = I (N + if b.any (sameK c n) = true then 1 else 0) → t' 13 = I c → t' 14 = I (n + 1) → Ext [] g g' → Q (.normal, t') g') :
    Tells (fun m => J_precentorlaw11_SubsMap_7 Try.prog (acallX Try.prog X m) m okK t g) Q := by
  have u4 := Try.underlying4
  have w1 : IntKind.i64.wrap (n + 1) = n + 1 := wrap_id (by omega) (by omega)
  have w2 : IntKind.i64.wrap (N + 1) = N + 1 := wrap_id (by omega) (by omega)
  have kst := Kn21.start mk.sa c n (⟨0, 0, 0, []⟩ : Sx)
  have kn := scan_Kn ch kst mk.sa
  rw [← mk.e] at kn
  obtain ⟨kn1, kn2⟩ := kn
  have la := mk.la
  have lb := mk.zb.1
  simp [J_precentorlaw11_SubsMap_7, mi.t7, t13, t14]
  refine Tells.bind (subs_Has hX mi.oa (by omega) c n) ?_
  rintro _ h1 ⟨rfl, x1⟩
  try simp
  refine Tells.new fun h2 bx ox x2 l2 => ?_
  have x12 := x1.trans x2
  have ox : Ob h2 bx (sxC ⟨0, 0, 0, []⟩ .nils) := ox
  have hbx : g.next ≤ bx := by have := x1.next; omega
  try simp
  refine Tells.bind (map_lastA hX mk (N := N) (c := c) (n := n) (v15 := .bool (a.any (sameK c n))) (bx := bx) x12 hbx (mi.of x12 (by simp) (by simp) (by simp)) ox Sl.nil (by simp [t12]) (by simp [t13]) (by simp [t14]) (by simp) (by simp) (by simp)) ?_
  rintro ⟨ex, t3⟩ h3 ⟨rfl, m3, a12, a13, a14, a15, a16, x3, xv3, ox3, of3⟩
  simp [J_precentorlaw11_SubsMap_9]
  refine Tells.bind (map_scan hX mk (N := N) (c := c) (n := n) (st0 := (a.any (sameK c n), lastS c n ⟨0, 0, 0, []⟩ a)) (bx := bx) x3 hbx (m3.of .refl (S := []) (by simp) (by simp) (by simp)) ox3 of3 (by simpa using a12) (by simpa using a13) (by simpa using a14) (by simpa using a15) (by simpa using a16) (by simp)) ?_
  rintro ⟨ex, t4⟩ h4 ⟨rfl, m4, b12, b13, b14, b15, b16, x4, xv4, ox4, of4⟩
  have m4 : MV t4 h4 av cv bv a b ch := m4
  have b12 : t4 12 = I N := b12
  have b13 : t4 13 = I c := b13
  have b14 : t4 14 = I n := b14
  have b15 : t4 15 = .bool (ch.foldl (step21 c n) (a.any (sameK c n), lastS c n ⟨0, 0, 0, []⟩ a)).1 := b15
  have b16 : t4 16 = .ptr bx 0 := b16
  rw [kn1] at b15
  simp [J_precentorlaw11_SubsMap_10, m4.t10, b13, b14]
  refine Tells.bind (subs_Has hX m4.ob (by omega) c n) ?_
  rintro _ h5 ⟨rfl, x5⟩
  have X5 := x4.trans x5
  cases hb : b.any (sameK c n) with
  | false =>
    rw [hb] at b15
    simp [b15, J_precentorlaw11_SubsMap_11, J_precentorlaw11_SubsMap_8, b14, w1]
    refine Tells.ok (hQ _ _ (m4.of x5 (by simp) (by simp) (by simp)) (by simp [hb, b12]) (by simp [b13]) (by simp) X5)
  | true =>
    rw [hb] at b15
    simp [b15, J_precentorlaw11_SubsMap_11, b12, w2, m4.t10, b13]
    refine Tells.bind (subs_Of hX (m4.ob.ext x5) mk.zb c) ?_
    rintro mv h6 ⟨rm, x6⟩
    have om := rm.sl
    obtain ⟨y, hy, ky⟩ := List.any_eq_true.1 hb
    have exy := kn2 y hy ky
    rw [exy] at ox4 of4
    have X6 := X5.trans x6
    have lm : (ofL b c).length ≤ 1000 := Nat.le_trans (List.length_filter_le _ _) lb
    have ym : y ∈ ofL b c := by
      unfold ofL
      rw [List.mem_filter]
      exact ⟨hy, by simp [(sameK_iff.1 ky).1]⟩
    try simp
    refine Tells.bind (map_found hX mk (g0 := g) (N := N + 1) (c := c) (n := n) (bx := bx) (xv := xv4) (x := y) (mine := ofL b c) (mv := mv) (m4.of (x5.trans x6) (by simp) (by simp) (by simp)) om lm (fun s hs => mk.xb s (List.mem_filter.1 hs).1) ((ox4.e x5).e x6) ((of4.ext x5).ext x6) (mk.xb y hy).2
      (List.any_eq_true.2 ⟨y, ym, by simp [(sameK_iff.1 ky).2, sameL_self samePr_self]⟩) (by simp) (by simp [b13]) (by simp [b14]) (by simp [b16]) (by simp) (by simp) (by simp)) ?_
    rintro ⟨ex, t7⟩ h7 ⟨rfl, m7, c12, c13, c14, c20, x7⟩
    have c12 : t7 12 = I (N + 1) := c12
    have c13 : t7 13 = I c := c13
    have c14 : t7 14 = I n := c14
    have c20 : t7 20 = .bool true := c20
    simp [J_precentorlaw11_SubsMap_12, c20, J_precentorlaw11_SubsMap_8, c14, w1]
    exact Tells.ok (hQ _ _ (m7.of .refl (S := []) (by simp) (by simp) (by simp)) (by simp [hb, c12]) (by simp [c13]) (by simp) (X6.trans x7))

/-- All clients and numbers. -/
theorem map_all (hX : OnlyKnown X) (mk : Mk a b ch) (mi : MV t g av cv bv a b ch) (t12 : t 12 = I 0) (t13 : t 13 = I 1) :
    Tells (fun m => loopN (L_precentorlaw11_SubsMap_3 Try.prog (acallX Try.prog X m) m) m t g) fun r g' => r.1 = .exit 4 ∧ MV r.2 g' av cv bv a b ch ∧ r.2 12 = I (cnt21 b 54) := by
  have cl : ∀ j, j ≤ 54 → cnt21 b j ≤ 54 := fun j hj => by
    unfold cnt21
    have := List.countP_le_length (p := fun i => b.any (keyI i)) (l := List.range j)
    simp at this
    omega
  refine Tells.loop (fun s t g' => ∃ k : Nat, MV t g' av cv bv a b ch ∧ t 12 = I (cnt21 b (9 * k)) ∧ t 13 = I ((k : Int) + 1) ∧ k + s = 6) ?_ 6 _ _ ⟨0, mi, by simpa [cnt21] using t12, by simpa using t13, by omega⟩
  rintro s t g' ⟨k, mi, t12, t13, hk⟩
  refine Tells.prot fun Q2 hQ2 => ?_
  unfold L_precentorlaw11_SubsMap_3
  by_cases hc : k < 6
  · have hc' : (k : Int) + 1 ≤ 6 := by omega
    have wk : IntKind.i64.wrap ((k : Int) + 1 + 1) = (k : Int) + 1 + 1 := wrap_id (by omega) (by omega)
    simp [t13, hc', J_precentorlaw11_SubsMap_4]
    refine Tells.bind (Tells.loop (fun s t g' => ∃ j : Nat, MV t g' av cv bv a b ch ∧ t 12 = I (cnt21 b (9 * k + j)) ∧ t 13 = I ((k : Int) + 1) ∧ t 14 = I ((j : Int) + 1) ∧ j + s = 9)
      (Q := fun r g' => r.1 = .exit 6 ∧ MV r.2 g' av cv bv a b ch ∧ r.2 12 = I (cnt21 b (9 * (k + 1))) ∧ r.2 13 = I ((k : Int) + 1)) ?_ 9 _ _ ⟨0, mi.of .refl (S := []) (by simp) (by simp) (by simp), by simpa using t12, by simpa using t13, by simp, by omega⟩) ?_
    · rintro s t g' ⟨j, mi, t12, t13, t14, hj⟩
      refine Tells.prot fun Q3 hQ3 => ?_
      unfold L_precentorlaw11_SubsMap_6
      by_cases hc2 : j < 9
      · have hc2' : (j : Int) + 1 ≤ 9 := by omega
        simp [t14, hc2']
        have cc := cl (9 * k + j) (by omega)
        refine map_one hX mk (N := (cnt21 b (9 * k + j) : Int)) (c := (k : Int) + 1) (n := (j : Int) + 1) (mi.of .refl (S := []) (by simp) (by simp) (by simp)) (by simp [t12]) (by simp [t13]) (by simp [t14]) ⟨by omega, by omega⟩ ⟨by omega, by omega⟩ fun t2 g2 m2 a12 a13 a14 _ => ?_
        refine hQ3 _ _ (.inl ⟨rfl, s - 1, by omega, j + 1, m2, ?_, a13, by simpa using a14, by omega⟩)
        show t2 12 = _
        rw [a12, show 9 * k + (j + 1) = 9 * k + j + 1 by omega, cnt21_succ, keyI_eq hc2]
        split <;> simp
      · have hc2' : ¬ (j : Int) + 1 ≤ 9 := by omega
        have : j = 9 := by omega
        subst this
        simp [t14]
        exact Tells.ok (hQ3 _ _ (.inr ⟨by simp, rfl, mi.of .refl (S := []) (by simp) (by simp) (by simp), by simp [t12]; rw [show 9 * k + 9 = 9 * (k + 1) by omega], by simp [t13]⟩))
    · rintro ⟨ex, t2⟩ g2 ⟨rfl, m2, a12, a13⟩
      have a12 : t2 12 = I (cnt21 b (9 * (k + 1))) := a12
      have a13 : t2 13 = I ((k : Int) + 1) := a13
      simp [J_precentorlaw11_SubsMap_5, a13, wk]
      exact Tells.ok (hQ2 _ _ (.inl ⟨rfl, s - 1, by omega, k + 1, m2.of .refl (S := []) (by simp) (by simp) (by simp), by simp [a12], by simp, by omega⟩))
  · have hc' : ¬ (k : Int) + 1 ≤ 6 := by omega
    have : k = 6 := by omega
    subst this
    simp [t13]
    exact Tells.ok (hQ2 _ _ (.inr ⟨by simp, rfl, mi.of .refl (S := []) (by simp) (by simp) (by simp), by simpa using t12⟩))

/-- They rise. -/
theorem map_rise (hX : OnlyKnown X) (mk : Mk a b ch) (sb : Srt b) (mi : MV t g av cv bv a b ch) (t11 : t 11 = I 1) :
    Tells (fun m => loopN (L_precentorlaw11_SubsMap_22 Try.prog (acallX Try.prog X m) m) m t g) fun r g' => r.1 = .exit 2 ∧ g' = g ∧ MV r.2 g' av cv bv a b ch := by
  refine Tells.loop (fun s t g' => g' = g ∧ ∃ i : Nat, MV t g' av cv bv a b ch ∧ t 11 = I ((i : Int) + 1) ∧ i + s = b.length + 1) ?_ (b.length + 1) _ _ ⟨rfl, 0, mi, by simpa using t11, by omega⟩
  rintro s t g' ⟨rfl, i, mi, t11, hi⟩
  refine Tells.prot fun Q2 hQ2 => ?_
  unfold L_precentorlaw11_SubsMap_22
  have lb := mk.zb.1
  simp [t11, mi.t10, mi.ob.len]
  refine Tells.cb (fun hc => ?_) (fun hc => ?_)
  · simp at hc
    have hc1 : i + 1 < b.length := by omega
    obtain ⟨x, hx⟩ : ∃ x, b[i]? = some x := ⟨_, List.getElem?_eq_getElem (by omega)⟩
    obtain ⟨y, hy⟩ : ∃ y, b[i + 1]? = some y := ⟨_, List.getElem?_eq_getElem hc1⟩
    obtain ⟨b1, p1, B1, c1, q1, q2, xv, rfl, _, _⟩ := mi.ob.at (n := 4) rfl (i := (i : Int)) (by omega) (by simpa using hx)
    obtain ⟨b2, p2, B2, c2, r1, r2, yv, rfl, _, _⟩ := mi.ob.at (n := 4) rfl (i := ((i + 1 : Nat) : Int)) (by omega) (by simpa using hy)
    rw [Int.natCast_add] at r1
    have r1 : ixsR 4 bv (.int .i64 ((i : Int) + 1)) = some (.ptr b2 p2) := r1
    have q40 := q2.cell0 (by simp [sxC])
    have q42 := q2.cell (k := 2) (by simp [sxC])
    have r40 := r2.cell0 (by simp [sxC])
    have r42 := r2.cell (k := 2) (by simp [sxC])
    simp [sxC] at q40 q42 r40 r42
    have w0 : IntKind.i64.wrap ((i : Int) + 1 - 1) = i := by rw [wrap_id (by omega) (by omega)]; omega
    have w00 : IntKind.i64.wrap (i : Int) = i := wrap_id (by omega) (by omega)
    have w1 : IntKind.i64.wrap ((i : Int) + 1 + 1) = (i : Int) + 1 + 1 := wrap_id (by omega) (by omega)
    have lt : kLt x y := by
      have h1 := (List.getElem?_eq_some_iff.1 hx).2
      have h2 := (List.getElem?_eq_some_iff.1 hy).2
      rw [← h1, ← h2]
      exact List.pairwise_iff_getElem.1 sb i (i + 1) (by omega) hc1 (by omega)
    have fin : ∀ t2 : T, t2 7 = t 7 → t2 8 = t 8 → t2 10 = t 10 → t2 11 = I ((i : Int) + 1) → Tells (fun m => J_precentorlaw11_SubsMap_24 Try.prog (acallX Try.prog X m) m okK t2 g') Q2 := fun t2 a7 a8 a10 a11 => by
      simp [J_precentorlaw11_SubsMap_24, a11, w1]
      exact Tells.ok (hQ2 _ _ (.inl ⟨rfl, s - 1, by omega, rfl, i + 1, mi.of .refl (S := []) (by simp [a7]) (by simp [a8]) (by simp [a10]), by simp, by omega⟩))
    have ng : ¬ y.c < x.c := by unfold kLt at lt; omega
    by_cases c1 : x.c = y.c
    · have nn : ¬ y.n ≤ x.n := by unfold kLt at lt; omega
      simp [J_precentorlaw11_SubsMap_23, mi.t10, t11, w0, w00, q1, q2.get, q40, q42, r1, r2.get, r40, r42, c1, nn]
      exact fin _ (by simp) (by simp) (by simp [mi.t10]) (by simp [t11])
    · simp [J_precentorlaw11_SubsMap_23, mi.t10, t11, w0, w00, q1, q2.get, q40, q42, r1, r2.get, r40, r42, ng, beq_eq_false_iff_ne.2 c1]
      exact fin _ (by simp) (by simp) (by simp [mi.t10]) (by simp [t11])
  · exact Tells.ok (hQ2 _ _ (.inr ⟨by simp, rfl, rfl, mi.of .refl (S := []) (by simp) (by simp) (by simp)⟩))
end
end Go.Proofs.Ytooeiefgnhgbeaa

/-! What subs.Same tells. -/
namespace Go.Proofs.Ytooeiefgnhgbeaa
open Go.Ab

section
variable {X : XTab}
theorem subs_Same (hX : OnlyKnown X) {h : Heap} {a b : AVal} {l m : List Sx} (o : Sl sxR h a l) (p : Sl sxR h b m) (hl : l.length ≤ 1000) (sz : ∀ x, x ∈ l → SzX x) (sz2 : ∀ x, x ∈ m → SzX x) :
    Tells (fun q => acallX Try.prog X q F_subs_Same [a, b] h) fun r h' => r = .bool (sameL sameSx l m) ∧ Ext [] h h' := by
  refine R_subs_Same _ _ (hX _ _ rfl) ?_
  refine Tells.prot fun Q' hQ => ?_
  unfold S_subs_Same
  by_cases hlm : l.length = m.length
  · simp [o.len, p.len, hlm, J_subs_Same_0]
    refine Tells.bind (Tells.loop (fun k t g => ∃ i : Nat, t 0 = a ∧ t 1 = b ∧ t 12 = I m.length ∧ t 13 = I i ∧ i + k = l.length ∧ sameL sameSx l m = sameL sameSx (l.drop i) (m.drop i) ∧ Ext [] h g)
      (Q := fun r g => ((r.1 = .exit 0 ∧ sameL sameSx l m = true) ∨ (r.1 = .ret ∧ r.2 4 = .bool false ∧ sameL sameSx l m = false)) ∧ Ext [] h g) ?_ l.length _ _ ⟨0, by simp, by simp, by simp, by simp, by omega, by simp, .refl⟩) ?_
    · rintro k t g ⟨i, t0, t1, tl, ti, hi, hs, xg⟩
      refine Tells.prot fun Q2 hQ2 => ?_
      unfold L_subs_Same_2
      have og := o.ext xg
      have pg := p.ext xg
      simp [t0, tl, ti, og.len]
      refine Tells.cb (fun hc => ?_) (fun hc => ?_)
      · simp at hc
        have hc1 : i < l.length := by omega
        obtain ⟨x, hx⟩ : ∃ x, l[i]? = some x := ⟨_, List.getElem?_eq_getElem hc1⟩
        obtain ⟨y, hy⟩ : ∃ y, m[i]? = some y := ⟨_, List.getElem?_eq_getElem (by omega)⟩
        obtain ⟨b1, p1, B1, c1, q1, q2, f1, rfl, of1, _⟩ := og.at (n := 4) rfl (i := (i : Int)) (by omega) (by simpa using hx)
        obtain ⟨b2, p2, B2, c2, r1, r2, f2, rfl, of2, _⟩ := pg.at (n := 4) rfl (i := (i : Int)) (by omega) (by simpa using hy)
        have w : IntKind.i64.wrap ((i : Int) + 1) = i + 1 := wrap_id (by omega) (by omega)
        have q40 := q2.cell0 (by simp [sxC])
        have q41 := q2.cell (k := 1) (by simp [sxC])
        have q42 := q2.cell (k := 2) (by simp [sxC])
        have q43 := q2.cell (k := 3) (by simp [sxC])
        have r40 := r2.cell0 (by simp [sxC])
        have r41 := r2.cell (k := 1) (by simp [sxC])
        have r42 := r2.cell (k := 2) (by simp [sxC])
        have r43 := r2.cell (k := 3) (by simp [sxC])
        simp [sxC] at q40 q41 q42 q43 r40 r41 r42 r43
        have e := sameL_drop (f := sameSx) hx hy
        have no : sameSx x y = false → ∀ (t' : T) (g' : Heap), t' 4 = .bool false → Ext [] h g' → Q2 (.ret, t') g' := fun hf t' g' a4 xg' => hQ2 _ _ (.inr ⟨by simp, .inr ⟨rfl, a4, by rw [hs, e, hf]; rfl⟩, xg'⟩)
        cases e1 : (x.c == y.c) with
        | false =>
          have e1' : (x.c != y.c) = true := by simp [bne, e1]
          simp [J_subs_Same_3, t0, t1, ti, q1, q2.get, q40, r1, r2.get, r40, e1']
          exact Tells.ok (no (by simp [sameSx, e1]) _ _ (by simp) xg)
        | true =>
          have e1' : (x.c != y.c) = false := by simp [bne, e1]
          cases e2 : (x.b == y.b) with
          | false =>
            have e2' : (x.b != y.b) = true := by simp [bne, e2]
            simp [J_subs_Same_3, t0, t1, ti, q1, q2.get, q40, q41, r1, r2.get, r40, r41, e1', e2']
            exact Tells.ok (no (by simp [sameSx, e1, e2]) _ _ (by simp) xg)
          | true =>
            have e2' : (x.b != y.b) = false := by simp [bne, e2]
            cases e3 : (x.n == y.n) with
            | false =>
              have e3' : (x.n != y.n) = true := by simp [bne, e3]
              simp [J_subs_Same_3, t0, t1, ti, q1, q2.get, q40, q41, q42, r1, r2.get, r40, r41, r42, e1', e2', e3']
              exact Tells.ok (no (by simp [sameSx, e1, e2, e3]) _ _ (by simp) xg)
            | true =>
              have e3' : (x.n != y.n) = false := by simp [bne, e3]
              simp [J_subs_Same_3, t0, t1, ti, q1, q2.get, q40, q41, q42, q43, r1, r2.get, r40, r41, r42, r43, e1', e2', e3']
              refine Tells.cbE (filter_Same hX of1 of2 (sz x (List.mem_of_getElem? hx)).1 (sz x (List.mem_of_getElem? hx)).2 (sz2 y (List.mem_of_getElem? hy)).2) ?_
              rintro _ g1 ⟨rfl, x1⟩
              cases hf : sameL samePr x.fl y.fl with
              | false =>
                try simp
                exact Tells.ok (no (by simp [sameSx, e1, e2, e3, hf]) _ _ (by simp) (xg.trans x1))
              | true =>
                have hxy : sameSx x y = true := by simp only [sameSx, e1, e2, e3, hf]; rfl
                simp [J_subs_Same_4, ti, w]
                exact Tells.ok (hQ2 _ _ (.inl ⟨rfl, k - 1, by omega, i + 1, by simp [t0], by simp [t1], by simp [tl], by simp, by omega, by rw [hs, e, hxy]; rfl, xg.trans x1⟩))
      · simp at hc
        refine Tells.ok (hQ2 _ _ (.inr ⟨by simp, .inl ⟨rfl, ?_⟩, xg⟩))
        rw [hs, List.drop_eq_nil_of_le (by omega), List.drop_eq_nil_of_le (by omega)]
        rfl
    · rintro ⟨ex, t⟩ g ⟨⟨rfl, he⟩ | ⟨rfl, t4, he⟩, xg⟩
      · simp [J_subs_Same_1]
        exact Tells.ok (hQ _ _ ⟨by rw [he], xg⟩)
      · have t4 : t 4 = .bool false := t4
        simp [t4]
        exact Tells.ok (hQ _ _ ⟨by rw [he], xg⟩)
  · have hn : ((l.length : Int) != (m.length : Int)) = true := by simp; omega
    simp [o.len, p.len, hn]
    exact Tells.ok (hQ _ _ ⟨by rw [sameL_len hlm], .refl⟩)
end
end Go.Proofs.Ytooeiefgnhgbeaa

/-! Law SubsOwn: the walk. -/
namespace Go.Proofs.Ytooeiefgnhgbeaa
open Go.Ab

theorem FedF.sz {fl : List Prd} (h : FedF fl) : fl.length ≤ 3 ∧ ∀ p, p ∈ fl → p.set.length ≤ 4 := ⟨h.1, fun p hp => (h.2.1 p hp).set_le⟩
theorem FedS.szx {m : Int} {l : List Sx} (h : FedS m l) : ∀ s, s ∈ l → SzX s := fun s hs => by
  obtain ⟨k1, k2⟩ := (h.f s hs).1.sz
  exact ⟨by omega, fun p hp => by have := k2 p hp; unfold SzP; omega⟩
theorem FedS.szs {m : Int} {l : List Sx} (h : FedS m l) (hl : l.length ≤ 18) : SzS l := ⟨by omega, fun s hs => h.szx s hs⟩
theorem names_turned : ∀ n, n ∈ names4 → (n.toList == (bs [116, 117, 114, 110, 101, 100]).toList) = false := by decide +kernel

section
variable {X : XTab}
theorem root_xC {b : Nat} {h h' : Heap} (x : ExtC b h h') (c : Nat) : h'.root c = h.root c := by unfold Heap.root; rw [x.cls]

/-- All names of a filter of b's are turned. -/
theorem own_turn (hX : OnlyKnown X) {h3 g : Heap} {t : T} {a1 v6 v7 bv fv : AVal} {css : List (List AVal)} {s : Sx} {dss : List (List AVal)} {k : Nat} (t1 : t 1 = a1) (t6 : t 6 = v6) (t7 : t 7 = v7) (t8 : t 8 = bv) (t9 : t 9 = I k) (t10 : t 10 = I 0)
    (X3 : Ext [] h3 g) (sb : SlC g 4 bv css) (hk : css[k]? = some (sxC s fv)) (of_ : Sl (cellR 13 (by decide)) g fv dss) (hl : dss.length ≤ 1000) (nz : ∀ c, c ∈ fv.blks → ¬ g.isRoot bv (g.root c) ∧ h3.next ≤ g.root c) :
    Tells (fun m => loopN (L_precentorlaw11_SubsOwn_14 Try.prog (acallX Try.prog X m) m) m t g) fun r g' => r.1 = .exit 0 ∧ r.2 1 = a1 ∧ r.2 6 = v6 ∧ r.2 7 = v7 ∧ Ext [] h3 g' := by
  refine Tells.loop (fun n t g => ∃ (i : Nat) (dss : List (List AVal)), t 1 = a1 ∧ t 6 = v6 ∧ t 7 = v7 ∧ t 8 = bv ∧ t 9 = I k ∧ t 10 = I i ∧ i + n = dss.length ∧ Ext [] h3 g ∧ SlC g 4 bv css ∧ Sl (cellR 13 (by decide)) g fv dss ∧ dss.length ≤ 1000 ∧ ∀ c, c ∈ fv.blks → ¬ g.isRoot bv (g.root c) ∧ h3.next ≤ g.root c) ?_ dss.length _ _ ⟨0, dss, t1, t6, t7, t8, t9, t10, by omega, X3, sb, of_, hl, nz⟩
  rintro n t g ⟨i, dss, t1, t6, t7, t8, t9, t10, hi, X3, sb, of_, hl, nz⟩
  refine Tells.prot fun Q2 hQ2 => ?_
  unfold L_precentorlaw11_SubsOwn_14
  obtain ⟨b1, p1, B1, q1, q2⟩ := sb.at (i := (k : Int)) (by omega) (by simpa using hk)
  have q3 := q2.cell (k := 3) (by simp [sxC])
  simp [sxC] at q3
  simp [t10, t8, t9, q1, q2.get, q3, of_.len]
  refine Tells.cb (fun hc => ?_) (fun hc => ?_)
  · simp at hc
    obtain ⟨d, hd⟩ : ∃ d, dss[i]? = some d := ⟨_, List.getElem?_eq_getElem hc⟩
    have w : IntKind.i64.wrap ((i : Int) + 1) = i + 1 := wrap_id (by omega) (by omega)
    obtain ⟨bb, p, B, c, k1, k2, k3, k4, k5, k6, k7⟩ := pokeC (r := cellR 13 (by decide)) rfl (fun q => q) of_ (fun b hb => by have := (nz b hb).2; have := root_le g b; have := n0_le h3; have := X3.n0; omega) hd
    obtain ⟨g2, s1, s2, s3, _⟩ := k7 0 (.str (bs [116, 117, 114, 110, 101, 100])) (c.set 0 (.str (bs [116, 117, 114, 110, 101, 100]))) (by decide) (by rfl) (by rfl) ⟨rfl, by rw [List.length_set]; exact k6.2.1, by
      have h1 := k6.2.2
      rw [List.all_eq_true] at h1 ⊢
      intro x hx
      rcases List.mem_or_eq_of_mem_set hx with q | q
      · exact h1 x q
      · rw [q]; rfl⟩
    simp at s1
    have k4 : ixsR 13 fv (.int .i64 (i : Int)) = some (.ptr bb p) := k4
    simp [J_precentorlaw11_SubsOwn_15, t8, t9, t10, q1, q2.get, q3, k4, s1, J_precentorlaw11_SubsOwn_16, w]
    have hz := nz bb (by rw [k1]; simp)
    refine Tells.ok (hQ2 _ _ (.inl ⟨rfl, n - 1, by omega, i + 1, _, by simp [t1], by simp [t6], by simp [t7], by simp [t8], by simp [t9], by simp, by simp; omega, X3.extC s2 hz.2, sb.extC s2 (Apart.of fun c hc q => hz.1 ⟨c, hc, q.symm⟩), s3, by simp; omega, fun c hc => ?_⟩))
    rw [root_xC s2]
    obtain ⟨z1, z2⟩ := nz c hc
    exact ⟨fun ⟨d, hd, e⟩ => z1 ⟨d, hd, by rw [e, root_xC s2]⟩, z2⟩
  · exact Tells.ok (hQ2 _ _ (.inr ⟨by simp, rfl, by simp [t1], by simp [t6], by simp [t7], X3⟩))

/-- The end: nothing of a's is another. -/
theorem own_end (hX : OnlyKnown X) {m : Int} {g : Heap} {t : T} {v6 v7 : AVal} {l : List Sx} (t6 : t 6 = v6) (t7 : t 7 = v7) (oa : Sl sxR g v6 l) (ow : Sl sxR g v7 l) (fs : FedS m l) (hl : l.length ≤ 18) :
    Tells (fun m => J_precentorlaw11_SubsOwn_2 Try.prog (acallX Try.prog X m) m (retK Try.prog [.tmp 4]) t g) fun v _ => v = .bool true := by
  refine Tells.prot fun Q' hQ => ?_
  simp [J_precentorlaw11_SubsOwn_2]
  refine Tells.bind (Tells.loop (fun n t g' => g' = g ∧ ∃ i : Nat, t 6 = v6 ∧ t 7 = v7 ∧ t 13 = I i ∧ i + n = l.length) (Q := fun r g' => r.1 = .exit 4) ?_ l.length _ _ ⟨rfl, 0, by simp [t6], by simp [t7], by simp, by omega⟩) ?_
  · rintro n t g' ⟨rfl, i, t6, t7, t13, hi⟩
    refine Tells.prot fun Q2 hQ2 => ?_
    unfold L_precentorlaw11_SubsOwn_4
    simp [t13, t6, oa.len]
    refine Tells.cb (fun hc => ?_) (fun hc => ?_)
    · simp at hc
      obtain ⟨s, hs⟩ : ∃ s, l[i]? = some s := ⟨_, List.getElem?_eq_getElem hc⟩
      have w : IntKind.i64.wrap ((i : Int) + 1) = i + 1 := wrap_id (by omega) (by omega)
      obtain ⟨b1, p1, B1, c1, q1, q2, f1, rfl, of1, _⟩ := oa.at (n := 4) rfl (i := (i : Int)) (by omega) (by simpa using hs)
      obtain ⟨b2, p2, B2, c2, r1, r2, f2, rfl, of2, _⟩ := ow.at (n := 4) rfl (i := (i : Int)) (by omega) (by simpa using hs)
      have q42 := q2.cell (k := 2) (by simp [sxC])
      have q43 := q2.cell (k := 3) (by simp [sxC])
      have r42 := r2.cell (k := 2) (by simp [sxC])
      simp [sxC] at q42 q43 r42
      have ff := (fs.f s (List.mem_of_getElem? hs)).1
      simp [J_precentorlaw11_SubsOwn_5, t6, t7, t13, q1, q2.get, q42, r1, r2.get, r42, J_precentorlaw11_SubsOwn_7]
      refine Tells.bind (Tells.loop (fun n t g2 => g2 = g' ∧ ∃ j : Nat, t 6 = v6 ∧ t 7 = v7 ∧ t 13 = I i ∧ t 14 = I j ∧ j + n = s.fl.length) (Q := fun r g2 => r.1 = .exit 6 ∧ g2 = g' ∧ r.2 6 = v6 ∧ r.2 7 = v7 ∧ r.2 13 = I i) ?_ s.fl.length _ _ ⟨rfl, 0, by simp [t6], by simp [t7], by simp [t13], by simp, by omega⟩) ?_
      · rintro n t g2 ⟨rfl, j, t6, t7, t13, t14, hj⟩
        refine Tells.prot fun Q3 hQ3 => ?_
        unfold L_precentorlaw11_SubsOwn_8
        simp [t13, t14, t6, q1, q2.get, q43, of1.len]
        refine Tells.cb (fun hc => ?_) (fun hc => ?_)
        · simp at hc
          obtain ⟨p, hp⟩ : ∃ p, s.fl[j]? = some p := ⟨_, List.getElem?_eq_getElem hc⟩
          have w2 : IntKind.i64.wrap ((j : Int) + 1) = j + 1 := wrap_id (by omega) (by have := ff.1; omega)
          obtain ⟨b3, p3, B3, c3, u1, u2, sv, rfl, os, _⟩ := of1.at (n := 13) rfl (i := (j : Int)) (by omega) (by simpa using hp)
          have u3 := u2.cell0 (by simp [prC])
          simp [prC] at u3
          have hn := names_turned _ (ff.2.1 p (List.mem_of_getElem? hp)).1
          simp [J_precentorlaw11_SubsOwn_9, t13, t14, t6, q1, q2.get, q43, u1, u2.get, u3, hn, J_precentorlaw11_SubsOwn_10, w2]
          exact Tells.ok (hQ3 _ _ (.inl ⟨rfl, n - 1, by omega, rfl, j + 1, by simp [t6], by simp [t7], by simp [t13], by simp, by omega⟩))
        · exact Tells.ok (hQ3 _ _ (.inr ⟨by simp, rfl, rfl, by simp [t6], by simp [t7], by simp [t13]⟩))
      · rintro ⟨ex, t'⟩ g2 ⟨rfl, rfl, a6, a7, a13⟩
        have a6 : t' 6 = v6 := a6
        have a7 : t' 7 = v7 := a7
        have a13 : t' 13 = I i := a13
        simp [J_precentorlaw11_SubsOwn_6, a13, w]
        exact Tells.ok (hQ2 _ _ (.inl ⟨rfl, n - 1, by omega, rfl, i + 1, by simp [a6], by simp [a7], by simp, by omega⟩))
    · exact Tells.ok (hQ2 _ _ (.inr ⟨by simp, rfl⟩))
  · rintro ⟨ex, t'⟩ g2 rfl
    simp [J_precentorlaw11_SubsOwn_3]
    exact Tells.ok (hQ _ _ rfl)

/-- What Of tells is turned. -/
theorem own_of (hX : OnlyKnown X) {m : Int} {h3 g : Heap} {t : T} {v6 v7 : AVal} {l : List Sx} (t6 : t 6 = v6) (t7 : t 7 = v7) (oa : Sl sxR h3 v6 l) (ow : Sl sxR h3 v7 l) (X3 : Ext [] h3 g) (fs : FedS m l) (hl : l.length ≤ 18) :
    Tells (fun m => J_precentorlaw11_SubsOwn_1 Try.prog (acallX Try.prog X m) m (retK Try.prog [.tmp 4]) t g) fun v _ => v = .bool true := by
  refine Tells.prot fun Q' hQ => ?_
  simp [J_precentorlaw11_SubsOwn_1, t6]
  refine Tells.bind (subs_Of hX (oa.ext X3) (fs.szs hl) 1) ?_
  rintro cv g1 ⟨rc, x1⟩
  have len : (ofL l 1).length ≤ 18 := Nat.le_trans (List.length_filter_le _ _) hl
  have n3 := X3.next
  try simp
  refine Tells.bind (Tells.loop (fun n t g' => ∃ (i : Nat) (cl : List Sx), t 6 = v6 ∧ t 7 = v7 ∧ t 11 = cv ∧ t 12 = I i ∧ i + n = cl.length ∧ cl.length ≤ 18 ∧ RowZ sxF g.next g g' cv cl ∧ Ext [] h3 g') (Q := fun r g' => r.1 = .exit 2 ∧ r.2 6 = v6 ∧ r.2 7 = v7 ∧ Ext [] h3 g') ?_ (ofL l 1).length _ _ ⟨0, ofL l 1, by simp [t6], by simp [t7], by simp, by simp, by omega, len, rc, X3.trans x1⟩) ?_
  · rintro n t g' ⟨i, cl, t6, t7, t11, t12, hi, hcl, rz, xg⟩
    refine Tells.prot fun Q2 hQ2 => ?_
    unfold L_precentorlaw11_SubsOwn_11
    simp [t11, t12, rz.len]
    refine Tells.cb (fun hc => ?_) (fun hc => ?_)
    · simp at hc
      obtain ⟨s, hs⟩ : ∃ s, cl[i]? = some s := ⟨_, List.getElem?_eq_getElem hc⟩
      have w : IntKind.i64.wrap ((i : Int) + 1) = i + 1 := wrap_id (by omega) (by omega)
      obtain ⟨b, p, B, c, k1, k2, k3, k4, k5, k6, k7, ⟨fv, rfl, of_, zf⟩, put⟩ := rz.set1 (n := 4) rfl hs
      obtain ⟨g2, s1, s2, s3⟩ := put 2 (I 77) { s with n := 77 } (by decide) (by rfl) (by rfl) ⟨fv, by simp [sxC], of_, zf⟩
      simp [J_precentorlaw11_SubsOwn_12, t11, t12, k6, s1, J_precentorlaw11_SubsOwn_13, w]
      exact Tells.ok (hQ2 _ _ (.inl ⟨rfl, n - 1, by omega, i + 1, _, by simp [t6], by simp [t7], by simp [t11], by simp, by simp; omega, by simpa using hcl, s3, xg.extC s2 (by omega)⟩))
    · exact Tells.ok (hQ2 _ _ (.inr ⟨by simp, rfl, by simp [t6], by simp [t7], xg⟩))
  · rintro ⟨ex, t'⟩ g' ⟨rfl, a6, a7, xg⟩
    exact (own_end hX (t := t') a6 a7 (oa.ext xg) (ow.ext xg) fs hl).mono fun v _ e => hQ _ _ e

theorem subsOwn_ (hX : OnlyKnown X) (hk : X F_precentorlaw11_known [] = some (.bool true)) {h : Heap} {v1 : AVal} {xs1 : List Int} (r1 : RawInts h v1 xs1) (x : Int) (hx : In64 x) :
    Tells (fun m => acallX Try.prog X m F_precentorlaw11_SubsOwn [v1, I x] h) fun a _ => a = .bool true := by
  refine R_precentorlaw11_SubsOwn _ _ (hX _ _ rfl) ?_
  refine Tells.prot fun Q' hQ => ?_
  unfold S_precentorlaw11_SubsOwn
  simp [bldR, fillR, splice, r1.sl.known, r1.sl.cells]
  refine Tells.box rfl rfl fun h1 bf f1 x1 l1 => ?_
  try simp
  have rr := r1.ext x1
  have fd : Feed h1 bf 0 := ⟨v1, 0, xs1, f1, by omega, by omega, rr.sl, rr.small, rr.old⟩
  refine Tells.bind (SubsH hX fd (by omega) (Sl.nil (r := intR)) (by simp)) ?_
  rintro av h2 ⟨l, ra, fs, hl, x2, f2⟩
  have oa : Sl sxR h2 av l := ra.sl
  try simp
  refine Tells.lit (r := sxR) (xs := []) (css := []) (by rfl) trivial (by rfl) (by rfl) (by rfl) fun v16 h3 g3 x3 _ => ?_
  try simp
  refine Tells.appN g3 (oa.ext x3) (by rfl) (by simp; omega) (by decide) x3.next fun wv h4 g4 x4 y4 _ => ?_
  have X4 := y4 [] x3
  have oa4 : Sl sxR h4 av l := oa.ext X4
  have ow4 : Sl sxR h4 wv l := by simpa using g4.1
  try simp
  refine Tells.bind (subs_Apply hX oa4 (fs.szs hl) (by omega) (Sl.nil (r := cgR)) (by simp) (by simp)) ?_
  rintro bv h5 ⟨rb, x5⟩
  simp only [List.foldl_nil] at rb
  try simp
  refine Tells.bind (known_X hk h5) ?_
  rintro _ h6 ⟨rfl, rfl⟩
  try simp
  refine Tells.bind (subs_Same hX (oa4.ext x5) rb.sl (by omega) fs.szx fs.szx) ?_
  rintro _ h7 ⟨rfl, x7⟩
  have hs := sameL_self sameSx_self l
  have rb7 := rb.e x7
  have X7 := x5.trans x7
  simp [hs, J_precentorlaw11_SubsOwn_0, rb7.len]
  by_cases h0 : 0 < l.length
  · have h0' : (0 : Int) < l.length := by omega
    simp [h0, h0']
    refine Tells.bind (Pick hX x l.length ⟨by omega, by omega⟩ h7) ?_
    rintro _ h8 ⟨rfl, rfl⟩
    have k1 := pick_lo x l.length
    have k2 := pick_hi x l.length (by omega)
    obtain ⟨k, hk2⟩ : ∃ n : Nat, pick x l.length = n := ⟨(pick x l.length).toNat, by omega⟩
    rw [hk2]
    obtain ⟨s, hs⟩ : ∃ s, l[k]? = some s := ⟨_, List.getElem?_eq_getElem (by omega)⟩
    obtain ⟨b, p, B, c, i1, i2, i3, i4, i5, i6, i7, ⟨fv, rfl, of_, zf⟩, put⟩ := rb7.set1 (n := 4) rfl hs
    obtain ⟨g2, s1, s2, s3⟩ := put 2 (I 99) { s with n := 99 } (by decide) (by rfl) (by rfl) ⟨fv, by simp [sxC], of_, zf⟩
    simp [i6, s1]
    have X8 := X7.extC s2 i4
    obtain ⟨css, sc, al⟩ := s3.2.1
    have hkk : (l.set k { s with n := 99 })[k]? = some { s with n := 99 } := by
      have := (List.getElem?_eq_some_iff.1 hs).1
      rw [List.getElem?_set]; simp [this]
    obtain ⟨c, hc, fv', rfl, of', zf'⟩ := al.at hkk
    obtain ⟨dss, d1, d2⟩ := of'
    have ed := reps_each d2
    have sf := (fs.f s (List.mem_of_getElem? hs)).1.1
    have dl := d2.len
    have dl' : dss.length = s.fl.length := dl
    refine Tells.bind (own_turn hX (g := g2) (bv := bv) (fv := fv') (css := css) (dss := dss) (k := k) (s := { s with n := 99 }) (by rfl) (by rfl) (by rfl) (by simp) (by simp) (by simp) X8 sc hc ⟨dss, d1, cells_of (by decide) ed⟩ (by omega) zf') ?_
    rintro ⟨ex, t'⟩ g' ⟨rfl, a1, a6, a7, xg⟩
    refine (own_of hX (t := t') (v6 := av) (v7 := wv) (by simpa using a6) (by simpa using a7) oa4 ow4 xg fs hl).mono fun v _ e => hQ _ _ e
  · have h0' : ¬ (0 : Int) < l.length := by omega
    simp [h0, h0']
    refine (own_of hX (v6 := av) (v7 := wv) (by simp) (by simp) oa4 ow4 X7 fs hl).mono fun v _ e => hQ _ _ e
end
end Go.Proofs.Ytooeiefgnhgbeaa

/-! Law SubsMap: all of it. -/
namespace Go.Proofs.Ytooeiefgnhgbeaa
open Go.Ab

theorem FedS.srt {m : Int} {l : List Sx} (h : FedS m l) : Srt l := h.r.imp fun q => by
  rcases q with q | ⟨q1, q2, _⟩
  · exact .inl q
  · exact .inr ⟨q1, q2⟩

section
variable {X : XTab}

set_option maxRecDepth 20000
theorem subsMap_ (hX : OnlyKnown X) (hk : X F_precentorlaw11_known [] = some (.bool true)) {h : Heap} {v1 v2 : AVal} {xs1 xs2 : List Int} (r1 : RawInts h v1 xs1) (r2 : RawInts h v2 xs2) :
    Tells (fun m => acallX Try.prog X m F_precentorlaw11_SubsMap [v1, v2] h) fun r _ => r = .bool true := by
  refine R_precentorlaw11_SubsMap _ _ (hX _ _ rfl) ?_
  refine Tells.prot fun Q' hQ => ?_
  unfold S_precentorlaw11_SubsMap
  simp [bldR, fillR, splice, r1.sl.known, r1.sl.cells]
  refine Tells.box rfl rfl fun h1 bf f1 x1 l1 => ?_
  have rr := r1.ext x1
  have fd : Feed h1 bf 0 := ⟨v1, 0, xs1, f1, by omega, by omega, rr.sl, rr.small, rr.old⟩
  simp [bldR, fillR, splice, r2.sl.known, r2.sl.cells]
  refine Tells.box rfl rfl fun h2 bg f2 x2 l2 => ?_
  have rr2 := (r2.ext x1).ext x2
  have gd2 : Feed h2 bg 0 := ⟨v2, 0, xs2, f2, by omega, by omega, rr2.sl, rr2.small, rr2.old⟩
  have ne : bg ≠ bf := by have := fd.lt; omega
  try simp
  refine Tells.bind (SubsH hX (fd.e x2) (by omega) (Sl.nil (r := intR)) (by simp)) ?_
  rintro av h3 ⟨a, ra, fs, hl, x3, f3⟩
  have g3 := gd2.ext x3 (by simpa using ne)
  have oa : Sl sxR h3 av a := ra.sl
  have n3 := x3.next
  try simp
  refine Tells.bind (Next hX 9 ⟨by decide, by decide⟩ g3 (by omega)) ?_
  rintro _ h4 ⟨u, rfl, u0, u1, _, x4, g4⟩
  have u1 := u1 (by decide)
  obtain ⟨u, rfl⟩ : ∃ n : Nat, u = n := ⟨u.toNat, by omega⟩
  try simp
  refine Tells.bind (Tells.loop (fun s t g => ∃ (i : Nat) (ch : List Cg), t 6 = .ptr bg 0 ∧ t 7 = av ∧ t 9 = I ((u : Int) - i) ∧ i + s = u ∧ ch.length = i ∧ (∀ y, y ∈ ch → FedF y.s.fl ∧ 1 ≤ y.s.c ∧ y.s.c ≤ 3 ∧ 1 ≤ y.s.n ∧ y.s.n ≤ 4) ∧ Gl cgR h4 g (t 8) ch ∧ Ext [bg] h4 g ∧ Feed g bg (1 + 64 * i))
    (Q := fun r g => r.1 = .exit 0 ∧ r.2 7 = av ∧ ∃ ch : List Cg, ch.length ≤ 8 ∧ (∀ y, y ∈ ch → FedF y.s.fl ∧ 1 ≤ y.s.c ∧ y.s.c ≤ 3 ∧ 1 ≤ y.s.n ∧ y.s.n ≤ 4) ∧ Sl cgR g (r.2 8) ch ∧ Ext [bg] h4 g) ?_ u _ _ ⟨0, [], by simp, by simp, by simp, by omega, rfl, by simp, by simpa using Gl.nil, .refl, by simpa using g4⟩) ?_
  · rintro s t g ⟨i, ch, t6, t7, t9, hi, hlen, hch, gc, xg, fg⟩
    refine Tells.prot fun Q2 hQ2 => ?_
    unfold L_precentorlaw11_SubsMap_25
    by_cases hc : i < u
    · have hc' : (0 : Int) < (u : Int) - i := by omega
      have hc2 : (i : Int) < u := by omega
      have wu : IntKind.i64.wrap ((u : Int) - i - 1) = (u : Int) - i - 1 := wrap_id (by omega) (by omega)
      simp [t9, hc, hc', hc2, J_precentorlaw11_SubsMap_26, t6]
      refine Tells.bind (Next hX 2 ⟨by decide, by decide⟩ fg (by omega)) ?_
      rintro _ g1 ⟨r, rfl, _, _, _, y1, d1⟩
      have c1 := gc.extO y1 (by simpa using .inl fg.m)
      try simp [t6]
      refine Tells.bind (Next hX 3 ⟨by decide, by decide⟩ d1 (by omega)) ?_
      rintro _ g2 ⟨c, rfl, cl0, cl1, _, y2, d2⟩
      have cl1 := cl1 (by decide)
      have c2 := c1.extO y2 (by simpa using .inl d1.m)
      have wc : IntKind.i64.wrap (1 + c) = 1 + c := wrap_id (by omega) (by omega)
      try simp [t6, wc]
      refine Tells.bind (Next hX 4 ⟨by decide, by decide⟩ d2 (by omega)) ?_
      rintro _ g3 ⟨n, rfl, nl0, nl1, _, y3, d3⟩
      have nl1 := nl1 (by decide)
      have c3 := c2.extO y3 (by simpa using .inl d2.m)
      have wn : IntKind.i64.wrap (1 + n) = 1 + n := wrap_id (by omega) (by omega)
      try simp [t6, wn]
      refine Tells.bind (FilterH hX d3 (by omega)) ?_
      rintro fv g4' ⟨fl, rf, hfl, y4, d4⟩
      have c4 := c3.extO y4 (by simpa using .inl d3.m)
      have X4 := (((xg.trans y1).trans y2).trans y3).trans y4
      simp [bldR, fillR, splice, rf.2.1.known, rf.2.1.cells, wc, wn]
      refine Tells.app1 c4 (by rfl) (by rfl) (show cgR.rep g4' (.bool (r == 0) :: sxC ⟨1 + c, 0, 1 + n, fl⟩ fv) ⟨r == 0, ⟨1 + c, 0, 1 + n, fl⟩⟩ from ⟨fv, rfl, rf.sl, fun _ _ => trivial⟩) (by rfl) (by rfl) (by omega) (by decide) X4.next fun s5 g5 c5 y5 z5 _ => ?_
      have d5 := d4.ext y5 (fun q => by have := (c4.1.blk _ q).1; rw [d4.m] at this; cases this)
      simp [J_precentorlaw11_SubsMap_27, t9, wu]
      refine Tells.ok (hQ2 _ _ (.inl ⟨rfl, s - 1, by omega, i + 1, ch ++ [⟨r == 0, ⟨1 + c, 0, 1 + n, fl⟩⟩], by simp [t6], by simp [t7], by simp; omega, by omega, by simp; omega, fun y hy => ?_, by simpa using c5, z5 [bg] X4, d5.mono (by omega)⟩))
      rcases List.mem_append.1 hy with q | q
      · exact hch y q
      · simp at q; subst q; exact ⟨hfl, by show 1 ≤ 1 + c; omega, by show 1 + c ≤ 3; omega, by show 1 ≤ 1 + n; omega, by show 1 + n ≤ 4; omega⟩
    · have hc' : ¬ (0 : Int) < (u : Int) - i := by omega
      have hc2 : ¬ (i : Int) < u := by omega
      simp [t9, hc, hc', hc2]
      exact Tells.ok (hQ2 _ _ (.inr ⟨by simp, rfl, by simp [t7], ch, by omega, hch, by simpa using gc.1, xg⟩))
  · rintro ⟨ex, t5⟩ h5 ⟨rfl, t7, ch, hlc, hch, oc, x5⟩
    have t7 : t5 7 = av := t7
    have oc : Sl cgR h5 (t5 8) ch := oc
    have oa5 := (oa.ext x4).ext x5
    simp [J_precentorlaw11_SubsMap_0, t7]
    refine Tells.bind (subs_Apply hX oa5 (fs.szs hl) (by omega) oc (by omega) (fun y hy => ⟨by have := (hch y hy).1.sz.1; omega, fun p hp => by have := (hch y hy).1.sz.2 p hp; omega⟩)) ?_
    rintro bv h6 ⟨rb, x6⟩
    have sa := fs.srt
    have all : ∀ s, s ∈ ch.foldl appL a → FedF s.fl ∧ 1 ≤ s.c ∧ s.c ≤ 6 ∧ 1 ≤ s.n ∧ s.n ≤ 9 := mem_fold (P := fun s => FedF s.fl ∧ 1 ≤ s.c ∧ s.c ≤ 6 ∧ 1 ≤ s.n ∧ s.n ≤ 9) ch sa (fun s hs => by obtain ⟨k1, k2, k3, k4, k5, k6, k7⟩ := fs.f s hs; exact ⟨k1, k2, k3, k6, by omega⟩) (fun y hy => by obtain ⟨k1, k2, k3, k4, k5⟩ := hch y hy; exact ⟨k1, k2, by omega, k4, by omega⟩)
    have sb := Srt.fold ch sa
    have lb := foldl_len ch a
    have mk : Mk a (ch.foldl appL a) ch := ⟨sa, rfl, hl, by omega, fs.szs hl, ⟨by omega, fun s hs => ⟨by have := (all s hs).1.sz.1; omega, fun p hp => by have := (all s hs).1.sz.2 p hp; omega⟩⟩, fun s hs => ⟨by have := (all s hs).1.sz.1; omega, fun p hp => by have := (all s hs).1.sz.2 p hp; unfold SzP; omega⟩, fun s hs => (all s hs).2⟩
    try simp
    refine Tells.bind (map_rise hX mk sb (av := av) (cv := t5 8) (bv := bv) ⟨by simp [t7], by simp, by simp, oa5.ext x6, oc.ext x6, rb.sl⟩ (by simp)) ?_
    rintro ⟨ex, t6⟩ h7 ⟨rfl, rfl, m6⟩
    simp [J_precentorlaw11_SubsMap_1]
    refine Tells.bind (map_all hX mk (m6.of .refl (S := []) (by simp) (by simp) (by simp)) (by simp) (by simp)) ?_
    rintro ⟨ex, t7'⟩ h8 ⟨rfl, m7, a12⟩
    have m7 : MV t7' h8 av (t5 8) bv a (ch.foldl appL a) ch := m7
    have a12 : t7' 12 = I (cnt21 (ch.foldl appL a) 54) := a12
    rw [cnt21_len sb fun s hs => (all s hs).2] at a12
    simp [J_precentorlaw11_SubsMap_2]
    refine Tells.bind (known_X hk h8) ?_
    rintro _ h9 ⟨rfl, rfl⟩
    simp [a12, m7.t10, m7.ob.len, m7.t7]
    refine Tells.bind (subs_Right hX m7.oa (by omega) fun s hs => (fs.f s hs).1.szn) ?_
    rintro _ h10 ⟨rfl, x10⟩
    have hr := fs.right (by simp)
    simp [hr]
    exact Tells.ok (hQ _ _ rfl)
end
end Go.Proofs.Ytooeiefgnhgbeaa
