/-
  desk: its form; seat, New, Attach, clone, Hear, Poll, Log.
-/
import Derived.Test.YtnbmmebhammlkaaAttrC
import Derived.Test.YtnbmmebhammlkaaCell0
import Derived.Test.YtnbmmebhammlkaaKnown0
import Derived.Test.YtnbmmebhammlkaaB3
import Derived.Test.YtnbmmebhammlkaaSdesk
set_option linter.unusedVariables false
set_option linter.unusedSimpArgs false
namespace Go.Proofs.Ytnbmmebhammlkaa
open Go.Ab

/-- A client's seat, as its cells. -/
structure Seat where
  here : Bool
  vsub : AVal
  given : Int
  busy : Bool
  gone : Bool
  num : Int
  vlog : AVal
  read : Int
def seatC (s : Seat) : List AVal := [.bool s.here, s.vsub, I s.given, .bool s.busy, .bool s.gone, I s.num, s.vlog, I s.read]
def seat0 : Seat := ⟨false, .nils, 0, false, false, 0, .nils, 0⟩
def deskC (br : Int) (ss : List Seat) : List AVal := I br :: (ss.map seatC).flatten
theorem seat_len : ∀ {ss : List Seat}, ∀ c, c ∈ ss.map seatC → c.length = 8 := fun c hc => by
  obtain ⟨s, _, rfl⟩ := List.mem_map.1 hc
  rfl
theorem deskC_at {br : Int} {ss : List Seat} {c k : Nat} {s : Seat} (hc : ss[c]? = some s) (hk : k < 8) : (deskC br ss)[1 + c * 8 + k]? = (seatC s)[k]? := by
  have h := flat_at (n := 8) (css := ss.map seatC) seat_len (i := c) (c := seatC s) (by simp [hc])
  have e : (deskC br ss)[1 + c * 8 + k]? = ((ss.map seatC).flatten)[c * 8 + k]? := by
    rw [show 1 + c * 8 + k = (c * 8 + k) + 1 by omega]
    rfl
  rw [e, ← h, List.getElem?_take, if_pos hk, List.getElem?_drop]
theorem deskC_len {br : Int} {ss : List Seat} : (deskC br ss).length = 1 + ss.length * 8 := by
  have := flat_len (n := 8) (css := ss.map seatC) seat_len
  simp only [deskC, List.length_cons, this, List.length_map]
  omega
theorem deskC_set {br : Int} {ss : List Seat} {c k : Nat} {s s' : Seat} {v : AVal} (hc : ss[c]? = some s) (hk : k < 8) (h : (seatC s).set k v = seatC s') : (deskC br ss).set (1 + c * 8 + k) v = deskC br (ss.set c s') := by
  have e := flat_set (n := 8) (css := ss.map seatC) seat_len (i := c) (k := k) (c := seatC s) (x := v) (by simp [hc]) hk
  rw [h] at e
  rw [show 1 + c * 8 + k = (c * 8 + k) + 1 by omega]
  simp only [deskC, List.set_cons_succ]
  rw [← e, List.map_set]

/-- What is heard: from whom, number, epoch, attributes. -/
structure Sn where
  f : Int
  s : Int
  e : Int
  ats : List Att
def snC (x : Sn) (va : AVal) : List AVal := [I x.f, I x.s, I x.e, va]
def snR : Rp Sn := ⟨4, by decide, fun h cs x => ∃ va, cs = snC x va ∧ Sl attrR h va x.ats, fun ⟨_, h, _⟩ => by rw [h]; rfl, fun ⟨_, h, a⟩ => by rw [h]; simp [snC, a.one], fun ⟨va, h, a⟩ e => ⟨va, h, a.ext e⟩⟩
def sn0 : Sn := ⟨0, 0, 0, []⟩
theorem sn_at {h : Heap} {v : AVal} {xs : List Sn} (o : Sl snR h v xs) {i : Nat} {x : Sn} (hx : xs[i]? = some x) :
    ∃ b p B va, ixsR 4 v (.int .i64 (i : Int)) = some (.ptr b p) ∧ h.get b = some B ∧ p + 4 ≤ B.length ∧ (B.drop p).take 4 = snC x va ∧ Sl attrR h va x.ats ∧ B[p + 1]? = some (I x.s) := by
  obtain ⟨b, p, B, c, q1, e, va, rfl, oa⟩ := o.at (n := 4) rfl (i := (i : Int)) (by omega) (by simpa using hx)
  have l := e.le
  have e0 := e.eq
  simp only [snC, List.length_cons, List.length_nil] at l e0
  exact ⟨b, p, B, va, q1, e.get, by omega, e0, oa, e.cell (k := 1) (by simp [snC])⟩

section
variable {X : XTab}
theorem desk_seat (hX : OnlyKnown X) {h : Heap} {b : Nat} {br : Int} {ss : List Seat} (o : Ob h b (deskC br ss)) (hl : ss.length = 7) {c : Nat} {s : Seat} (h1 : 1 ≤ c) (hc : ss[c]? = some s) :
    Tells (fun q => acallX Try.prog X q F_desk_Desk_seat [.ptr b 0, I c] h) fun a h' => a = (if s.here = true then .ptr b (1 + c * 8) else .nilp) ∧ h' = h := by
  have hc7 : c < 7 := by have := (List.getElem?_eq_some_iff.1 hc).1; omega
  refine R_desk_Desk_seat _ _ (hX _ _ rfl) ?_
  have hp := ixp_at (len := 7) (z := 8) (b := b) (o := 1) hc7
  have at0 := deskC_at (br := br) hc (k := 0) (by decide)
  rw [Nat.add_zero] at at0
  unfold S_desk_Desk_seat
  cases hs : s.here with
  | true =>
    simp [show ¬ (c : Int) < 1 by omega, show ¬ (6 : Int) < c by omega, hp, o.1, at0, seatC, hs, J_desk_Desk_seat_0]
    exact Tells.ok ⟨rfl, rfl⟩
  | false =>
    simp [show ¬ (c : Int) < 1 by omega, show ¬ (6 : Int) < c by omega, hp, o.1, at0, seatC, hs]
    exact Tells.ok ⟨rfl, rfl⟩
theorem desk_New (hX : OnlyKnown X) (br : Int) (h : Heap) :
    Tells (fun q => acallX Try.prog X q F_desk_New [I br] h) fun a h' => ∃ b, a = .ptr b 0 ∧ Ob h' b (deskC br (List.replicate 7 seat0)) ∧ Ext [] h h' ∧ h.next ≤ b := by
  refine R_desk_New _ (hX _ _ rfl) ?_
  refine Tells.prot fun Q' hQ => ?_
  unfold S_desk_New
  simp [bldR, fillR, splice]
  refine Tells.box rfl rfl fun h1 b ob x l => ?_
  try simp
  exact Tells.ok (hQ _ _ ⟨b, rfl, ob, x, l⟩)
theorem desk_Attach (hX : OnlyKnown X) {h : Heap} {b : Nat} {br : Int} {ss : List Seat} (o : Ob h b (deskC br ss)) (hl : ss.length = 7) {c : Nat} {s : Seat} (h1 : 1 ≤ c) (hc : ss[c]? = some s) (hs : s.here = false) :
    Tells (fun q => acallX Try.prog X q F_desk_Desk_Attach [.ptr b 0, I c] h) fun a h' => a = I 0 ∧ Ob h' b (deskC br (ss.set c { s with here := true })) ∧ Ext [b] h h' := by
  have hc7 : c < 7 := by have := (List.getElem?_eq_some_iff.1 hc).1; omega
  refine R_desk_Desk_Attach _ _ (hX _ _ rfl) ?_
  refine Tells.prot fun Q' hQ => ?_
  have hp := ixp_at (len := 7) (z := 8) (b := b) (o := 1) hc7
  have at0 := deskC_at (br := br) hc (k := 0) (by decide)
  rw [Nat.add_zero] at at0
  have set0 := deskC_set (br := br) (s' := { s with here := true }) (v := .bool true) hc (k := 0) (by decide) rfl
  rw [Nat.add_zero] at set0
  unfold S_desk_Desk_Attach
  simp [show ¬ (c : Int) < 1 by omega, show ¬ (6 : Int) < c by omega, J_desk_Desk_Attach_0, hp, o.1, at0, seatC, hs, J_desk_Desk_Attach_1]
  refine Tells.st1 o (by rfl) (by rfl) (by rw [deskC_len, hl]; omega) fun h2 o2 x2 => ?_
  rw [set0] at o2
  try simp
  exact Tells.ok (hQ _ _ ⟨rfl, o2, x2⟩)
theorem desk_clone (hX : OnlyKnown X) {h : Heap} {x : Sn} {va : AVal} (oa : Sl attrR h va x.ats) (la : x.ats.length ≤ 100) :
    Tells (fun q => acallX Try.prog X q F_desk_clone [.agg (snC x va)] h) fun a h' => ∃ va', a = .agg (snC x va') ∧ Sl attrR h' va' x.ats ∧ Ext [] h h' := by
  refine R_desk_clone _ (hX _ _ rfl) ?_
  refine Tells.prot fun Q' hQ => ?_
  unfold S_desk_clone
  try simp
  refine Tells.box (cs := snC x va) (by simp [snC, AVal.known, oa.known]) (by simp [snC, AVal.cells]) fun h1 be oe x1 l1 => ?_
  try simp
  refine Tells.new fun h2 b2 o2 x2 l2 => ?_
  have oe2 := oe.e x2
  have hne : be ≠ b2 := by have := oe.lt; omega
  simp [oe2.1, snC]
  refine Tells.bind (attr_Copy hX (oa.ext (x1.trans x2)) la) ?_
  rintro v3 h3 ⟨g3, x3, w3⟩
  have oe3 := oe2.e x3
  try simp
  refine Tells.st1 oe3 g3.1.cells g3.1.one (by simp [snC]) fun h4 oe4 x4 => ?_
  have o4 : Ob h4 b2 [I 0, I 0, I 0, .nils] := (o2.e x3).ext x4 (by simpa using hne.symm)
  have a4 := g3.1.ext x4
  simp [oe4.1, snC]
  refine Tells.stN o4 (ds := snC x v3) (by rfl) (by rfl) (by simp [snC, a4.one]) (by rfl) fun h5 o5 x5 => ?_
  have nx := x1.next
  have e4 : Ext [] h h4 := ((x1.trans x2).trans x3).then x4 fun z hz => .inr (by simp at hz; omega)
  simp [C_desk_clone_0, o5.1, snC]
  exact Tells.ok (hQ _ _ ⟨v3, rfl, a4.ext x5, e4.then x5 fun z hz => .inr (by simp at hz; omega)⟩)
end
end Go.Proofs.Ytnbmmebhammlkaa
