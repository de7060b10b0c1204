/-
  desk: Hear, Poll, Log.
-/
import Derived.Test.YtnbmmebhammlkaaDesk0
set_option linter.unusedVariables false
set_option linter.unusedSimpArgs false
namespace Go.Proofs.Ytnbmmebhammlkaa
open Go.Ab
section
variable {X : XTab}
theorem desk_Hear (hX : OnlyKnown X) {h0 h : Heap} {b : Nat} {br : Int} {ss : List Seat} (o : Ob h b (deskC br ss)) (hl : ss.length = 7) {c : Nat} {s : Seat} (h1 : 1 ≤ c) (hc : ss[c]? = some s) (hs : s.here = true)
    {xs : List Sn} (lo : Gl snR h0 h s.vlog xs) (hle : h0.next ≤ h.next) (hxs : xs.length < 2 ^ 30) {x : Sn} {va : AVal} (oa : Sl attrR h va x.ats) (la : x.ats.length ≤ 100) :
    Tells (fun q => acallX Try.prog X q F_desk_Desk_Hear [.ptr b 0, I c, .agg (snC x va)] h) fun a h' => a = .bool true ∧ Ext (b :: s.vlog.blks) h h' ∧ (∀ S, b ∈ S → Ext S h0 h → Ext S h0 h') ∧ ∃ vl', Ob h' b (deskC br (ss.set c { s with vlog := vl' })) ∧ Gl snR h0 h' vl' (xs ++ [x]) := by
  have hc7 : c < 7 := by have := (List.getElem?_eq_some_iff.1 hc).1; omega
  refine R_desk_Desk_Hear _ _ _ (hX _ _ rfl) ?_
  refine Tells.prot fun Q' hQ => ?_
  have at6 := deskC_at (br := br) hc (k := 6) (by decide)
  have pn := fun y z => ptr_nil (t := 73) Try.underlying73 y z b (1 + c * 8)
  unfold S_desk_Desk_Hear
  try simp
  refine Tells.box (cs := snC x va) (by simp [snC, AVal.known, oa.known]) (by simp [snC, AVal.cells]) fun g1 be oe x1 l1 => ?_
  have hne : be ≠ b := by have := o.lt; omega
  try simp
  refine Tells.bind (desk_seat hX (o.e x1) hl h1 hc) ?_
  rintro _ g1 ⟨rfl, rfl⟩
  have o1 := o.e x1
  simp [hs, pn, J_desk_Desk_Hear_0, o1.1, at6, seatC, oe.1, snC]
  refine Tells.cbE (desk_clone hX (oa.ext x1) la) ?_
  rintro _ g2 ⟨va2, rfl, oa2, x2⟩
  have x12 := x1.trans x2
  have o2 := o.e x12
  simp [o2.1, at6, seatC]
  have hre : snR.rep g2 (snC x va2) x := ⟨va2, rfl, oa2⟩
  refine Tells.app1E (r := snR) (lo.e x12) (by simp [AVal.cells, snC]) (by simp [AVal.known, snC, oa2.known]) hre (by rfl) (by rfl) (by omega) (by decide) (Nat.le_trans hle x12.next) fun v3 g3 gl3 x3 y3 z3 => ?_
  have o3 := o2.ext x3 (lo.1.ob o)
  try simp
  refine Tells.st1E o3 gl3.1.cells gl3.1.one (by rw [deskC_len, hl]; omega) fun g4 o4 x4 => ?_
  rw [deskC_set (br := br) (s' := { s with vlog := v3 }) hc (k := 6) (by decide) rfl] at o4
  try simp
  have hb3 : b ∉ v3.blks := gl3.1.ob o3
  refine Tells.ok (hQ _ _ ⟨rfl, ?_, fun S hS k => (y3 S (k.quiet x12)).then x4 fun z hz => .inl (by simp at hz; subst hz; exact hS), v3, o4, gl3.ext x4 fun z hz q => hb3 (by rw [← List.mem_singleton.1 q]; exact hz)⟩)
  exact ((x12.of (S := s.vlog.blks)).trans x3 |>.mono (fun z hz => List.mem_cons_of_mem _ hz)).then x4 fun z hz => .inl (by simp at hz; simp [hz])
theorem desk_Poll (hX : OnlyKnown X) {h : Heap} {b : Nat} {br : Int} {ss : List Seat} (o : Ob h b (deskC br ss)) (hl : ss.length = 7) {c : Nat} {s : Seat} (h1 : 1 ≤ c) (hc : ss[c]? = some s) (hs : s.here = true)
    {xs : List Sn} (lo : Sl snR h s.vlog xs) (hxs : xs.length < 2 ^ 30) (hat : ∀ x, x ∈ xs → x.ats.length ≤ 100) {rd : Nat} (hr : s.read = rd) :
    Tells (fun q => acallX Try.prog X q F_desk_Desk_Poll [.ptr b 0, I c] h) fun a h' => Ext [b] h h' ∧ ((xs[rd]? = none ∧ a = .tup [.agg (snC sn0 .nils), I 4] ∧ Ob h' b (deskC br ss)) ∨
      (∃ x va, xs[rd]? = some x ∧ a = .tup [.agg (snC x va), I 0] ∧ Sl attrR h' va x.ats ∧ Ob h' b (deskC br (ss.set c { s with read := (rd : Int) + 1 })))) := by
  have hc7 : c < 7 := by have := (List.getElem?_eq_some_iff.1 hc).1; omega
  refine R_desk_Desk_Poll _ _ (hX _ _ rfl) ?_
  refine Tells.prot fun Q' hQ => ?_
  have at6 := deskC_at (br := br) hc (k := 6) (by decide)
  have at7 := deskC_at (br := br) hc (k := 7) (by decide)
  have pn := fun y z => ptr_nil (t := 73) Try.underlying73 y z b (1 + c * 8)
  unfold S_desk_Desk_Poll
  try simp
  refine Tells.new fun g1 b2 o2 x1 l1 => ?_
  have hne : b ≠ b2 := by have := o.lt; omega
  try simp
  refine Tells.bind (desk_seat hX (o.e x1) hl h1 hc) ?_
  rintro _ g1 ⟨rfl, rfl⟩
  have o1 := o.e x1
  have lo1 := lo.ext x1
  by_cases hlt : rd < xs.length
  · obtain ⟨x, hx⟩ : ∃ x, xs[rd]? = some x := ⟨_, List.getElem?_eq_getElem hlt⟩
    have w : IntKind.i64.wrap ((rd : Int) + 1) = rd + 1 := wrap_id (by omega) (by omega)
    have w2 : IntKind.i64.wrap (rd : Int) = rd := wrap_id (by omega) (by omega)
    simp [hs, pn, o1.1, at6, at7, seatC, hr, lo1.len, show ¬ (xs.length : Int) ≤ rd by omega, J_desk_Desk_Poll_0, w]
    refine Tells.st1 o1 (by rfl) (by rfl) (by rw [deskC_len, hl]; omega) fun g2 o3 x2 => ?_
    rw [deskC_set (br := br) (s' := { s with read := (rd : Int) + 1 }) hc (k := 7) (by decide) rfl] at o3
    have hc' : (ss.set c { s with read := (rd : Int) + 1 })[c]? = some { s with read := (rd : Int) + 1 } := by
      rw [List.getElem?_set, if_pos rfl, if_pos (by omega)]
    have bt6 := deskC_at (br := br) hc' (k := 6) (by decide)
    have bt7 := deskC_at (br := br) hc' (k := 7) (by decide)
    have lo2 := lo1.ext x2
    obtain ⟨bb, p, B, va, q1, q2, q3, q4, oa, q5⟩ := sn_at lo2 hx
    simp [o3.1, bt6, bt7, seatC, w2, q1, q2, q3, q4]
    refine Tells.cbE (desk_clone hX oa (hat x (List.mem_of_getElem? hx))) ?_
    rintro _ g3 ⟨va3, rfl, oa3, x3⟩
    have o23 : Ob g3 b2 [I 0, I 0, I 0, .nils] := (o2.ext x2 (by simpa using hne.symm)).e x3
    try simp
    refine Tells.stNE o23 (ds := snC x va3) (by rfl) (by rfl) (by simp [snC, oa3.one]) (by rfl) fun g4 o4 x4 => ?_
    simp [C_desk_Desk_Poll_0, o4.1, snC]
    refine Tells.ok (hQ _ _ ⟨((x1.of.trans x2).trans x3.of).then x4 fun z hz => .inr (by simp at hz; omega), .inr ⟨x, va3, hx, rfl, oa3.ext x4, (o3.e x3).ext x4 (by simpa using hne)⟩⟩)
  · simp [hs, pn, o1.1, at6, at7, seatC, hr, lo1.len, show (xs.length : Int) ≤ rd by omega, bldR, fillR]
    refine Tells.stN o2 (ds := snC sn0 .nils) (by rfl) (by rfl) (by rfl) (by rfl) fun g2 o3 x2 => ?_
    simp [C_desk_Desk_Poll_0, o3.1, snC]
    exact Tells.ok (hQ _ _ ⟨x1.of.then x2 fun z hz => .inr (by simp at hz; omega), .inl ⟨List.getElem?_eq_none (by omega), rfl, o1.ext x2 (by simpa using hne)⟩⟩)
theorem desk_Log (hX : OnlyKnown X) {h : Heap} {b : Nat} {br : Int} {ss : List Seat} (o : Ob h b (deskC br ss)) (hl : ss.length = 7) {c : Nat} {s : Seat} (h1 : 1 ≤ c) (hc : ss[c]? = some s) (hs : s.here = true)
    {xs : List Sn} (lo : Sl snR h s.vlog xs) (hxs : xs.length < 2 ^ 30) (hat : ∀ x, x ∈ xs → x.ats.length ≤ 100) :
    Tells (fun q => acallX Try.prog X q F_desk_Desk_Log [.ptr b 0, I c] h) fun a h' => Ext [] h h' ∧ Sl snR h' a xs := by
  have hc7 : c < 7 := by have := (List.getElem?_eq_some_iff.1 hc).1; omega
  refine R_desk_Desk_Log _ _ (hX _ _ rfl) ?_
  refine Tells.prot fun Q' hQ => ?_
  have at6 := deskC_at (br := br) hc (k := 6) (by decide)
  have pn := fun y z => ptr_nil' (t := 73) Try.underlying73 y z b (1 + c * 8)
  unfold S_desk_Desk_Log
  try simp
  refine Tells.bind (desk_seat hX o hl h1 hc) ?_
  rintro _ h ⟨rfl, rfl⟩
  simp [hs, pn, o.1, at6, seatC, lo.len]
  refine Tells.bind (Tells.loop (fun n t g => ∃ i : Nat, t 17 = s.vlog ∧ t 18 = I xs.length ∧ t 19 = I i ∧ i + n = xs.length ∧ Ext [] h g ∧ Gl snR h g (t 5) (xs.take i))
    (Q := fun p g => p.1 = .exit 0 ∧ Ext [] h g ∧ Sl snR g (p.2 5) xs) ?_ xs.length _ _ ?_) ?_
  · rintro n t g ⟨i, t17, t18, t19, hi, x, gl⟩
    refine Tells.prot fun Q2 hQ2 => ?_
    unfold L_desk_Desk_Log_1
    simp [t18, t19]
    refine Tells.cb (fun hlt => ?_) (fun hlt => ?_)
    · simp at hlt
      obtain ⟨y, hy⟩ : ∃ y, xs[i]? = some y := ⟨_, List.getElem?_eq_getElem hlt⟩
      obtain ⟨bb, p, B, va, q1, q2, q3, q4, oa, q5⟩ := sn_at (lo.ext x) hy
      have w : IntKind.i64.wrap ((i : Int) + 1) = i + 1 := wrap_id (by omega) (by omega)
      simp [J_desk_Desk_Log_2, t17, t19, q1, q2, q3, q4]
      refine Tells.newSt (ds := snC y va) (by rfl) (by rfl) (by rfl) (by simp [snC, oa.one]) fun g1 bn on xn ln => ?_
      have on1 := on.1
      simp only [snC] at on1
      simp [on1]
      refine Tells.bind (desk_clone hX (x := y) (oa.ext xn) (hat y (List.mem_of_getElem? hy))) ?_
      rintro _ g2 ⟨va2, rfl, oa2, x2⟩
      have X2 := xn.trans x2
      have hre : snR.rep g2 (snC y va2) y := ⟨va2, rfl, oa2⟩
      try simp
      refine Tells.app1 (r := snR) (gl.e X2) (by simp [AVal.cells, snC]) (by simp [AVal.known, snC, oa2.known]) hre (by rfl) (by rfl) (by simp; omega) (by decide) (x.trans X2).next fun v3 g3 gl3 x3 y3 z3 => ?_
      have ht : xs.take (i + 1) = xs.take i ++ [y] := by rw [List.take_add_one, hy]; rfl
      simp [J_desk_Desk_Log_3, t19, w]
      exact Tells.ok (hQ2 _ _ (.inl ⟨rfl, n - 1, by omega, i + 1, by simp [t17], by simp [t18], by simp, by omega, y3 _ (x.trans X2), by simpa [ht] using gl3⟩))
    · simp at hlt
      rw [List.take_of_length_le (by omega)] at gl
      exact Tells.ok (hQ2 _ _ (.inr ⟨by simp, rfl, x, by simpa using gl.1⟩))
  · exact ⟨0, by simp, by simp, by simp, by omega, .refl, by simpa using Gl.nil⟩
  · rintro ⟨ex, t⟩ g ⟨rfl, x, ol⟩
    simp [J_desk_Desk_Log_0]
    exact Tells.ok (hQ _ _ ⟨x, ol⟩)
end
end Go.Proofs.Ytnbmmebhammlkaa
