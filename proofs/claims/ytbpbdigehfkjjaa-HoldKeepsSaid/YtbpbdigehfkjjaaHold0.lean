/-
  What hold's functions tell.
-/
import Derived.Test.YtbpbdigehfkjjaaEv0
import Derived.Test.YtbpbdigehfkjjaaShold
set_option linter.unusedVariables false
set_option linter.unusedSimpArgs false
namespace Go.Proofs.Ytbpbdigehfkjjaa
open Go.Ab

/-- A hold: at most so many, its clock, what waits. -/
structure Hd (K : Nat) (h0 h : Heap) (b : Nat) (most : Int) (s : Slots) (es : List Ev) (vs vw : AVal) : Prop where
  ob : Ob h b [I most, vs, vw]
  sl : Sl pairR h vs s
  ev : Gl (evR K) h0 h vw es
  wr : Wr h0 h vw
theorem Hd.ext {S : List Nat} {K : Nat} {h0 h h' : Heap} {b : Nat} {most : Int} {s : Slots} {es : List Ev} {vs vw : AVal} (o : Hd K h0 h b most s es vs vw) (x : Ext S h h') (hb : b ∉ S) (hS : ∀ c, c ∈ S → h.isM c = true ∨ h.next ≤ c) : Hd K h0 h' b most s es vs vw :=
  ⟨o.ob.ext x hb, o.sl.ext x, o.ev.extO x hS, o.wr.ext x⟩
def heldE (es : List Ev) (x : Ev) : Bool := es.any fun y => y.c == x.c && y.s == x.s
def putE (most : Int) (es : List Ev) (x : Ev) : Int × List Ev := if heldE es x = true then (5, es) else if most ≤ (es.length : Int) then (6, es) else (0, es ++ [x])
/-- The place of the first event that is due. -/
def dueI (s : Slots) : List Ev → Option Nat
  | [] => none
  | x :: l => if due s x.sts = true then some 0 else (dueI s l).map (· + 1)
theorem heldE_drop {es : List Ev} {x y : Ev} {i : Nat} (h : es[i]? = some y) : heldE (es.drop i) x = ((y.c == x.c && y.s == x.s) || heldE (es.drop (i + 1)) x) := by
  have a := List.getElem?_eq_some_iff.1 h
  rw [List.drop_eq_getElem_cons a.1, a.2]
  rfl
theorem dueI_drop {s : Slots} {es : List Ev} {y : Ev} {i : Nat} (h : es[i]? = some y) : dueI s (es.drop i) = if due s y.sts = true then some 0 else (dueI s (es.drop (i + 1))).map (· + 1) := by
  have a := List.getElem?_eq_some_iff.1 h
  rw [List.drop_eq_getElem_cons a.1, a.2]
  rfl

section
variable {X : XTab}
theorem hold_New (hX : OnlyKnown X) {h : Heap} {u : AVal} {ps : List Int} (most : Int) (ou : Sl intR h u ps) (hl : ps.length < 2 ^ 29) (K : Nat) :
    Tells (fun q => acallX Try.prog X q F_hold_New [I most, u] h) fun a h' => ∃ b vs, a = .ptr b 0 ∧ Hd K h h' b most (newS ps) [] vs .nils ∧ Wr h h' vs ∧ Ext [] h h' ∧ h.next ≤ b := by
  refine R_hold_New _ _ (hX _ _ rfl) ?_
  refine Tells.prot fun Q' hQ => ?_
  unfold S_hold_New
  try simp
  refine Tells.bind (clock_NewW hX ou hl) ?_
  rintro _ h1 ⟨v, rfl, sl, w, x1⟩
  simp [bldR, fillR, splice, sl.known, sl.cells]
  refine Tells.box rfl rfl fun h2 b ob x2 l2 => ?_
  try simp
  exact Tells.ok (hQ _ _ ⟨b, v, rfl, ⟨ob, sl.ext x2, Gl.nil, fun b hb => by simp [AVal.blks] at hb⟩, w.ext x2, x1.trans x2, Nat.le_trans x1.next l2⟩)
theorem hold_clone (hX : OnlyKnown X) {h : Heap} {x : Ev} {va vs : AVal} (oa : Sl attrR h va x.ats) (os : Sl pairR h vs x.sts) (la : x.ats.length ≤ 2 ^ 30) (ls : x.sts.length ≤ 2 ^ 30) :
    Tells (fun q => acallX Try.prog X q F_hold_clone [.agg (evC x va vs)] h) fun a h' => ∃ va' vs', a = .agg (evC x va' vs') ∧ Sl attrR h' va' x.ats ∧ Sl pairR h' vs' x.sts ∧ Wr h h' va' ∧ Wr h h' vs' ∧ Ext [] h h' := by
  refine R_hold_clone _ (hX _ _ rfl) ?_
  refine Tells.prot fun Q' hQ => ?_
  unfold S_hold_clone
  try simp
  refine Tells.box (cs := evC x va vs) (by simp [evC, AVal.known, oa.known, os.known]) (by simp [evC, AVal.cells]) fun h1 be oe x1 l1 => ?_
  try simp
  refine Tells.new fun h2 b2 o2 x2 l2 => ?_
  have oe2 := oe.e x2
  have hne : be ≠ b2 := by have := oe.lt; omega
  simp [oe2.1, evC]
  have oa2 := oa.ext (x1.trans x2)
  refine Tells.copy oa2 (by rfl) (by omega) (by decide) fun v3 h3 g3 x3 w3 => ?_
  have oe3 := oe2.e x3
  try simp
  refine Tells.st1 oe3 g3.1.cells g3.1.one (by simp [evC]) fun h4 oe4 x4 => ?_
  have os4 := ((os.ext (x1.trans x2)).ext x3).ext x4
  simp [oe4.1, evC]
  refine Tells.copy os4 (by rfl) (by omega) (by decide) fun v5 h5 g5 x5 w5 => ?_
  have oe5 := oe4.e x5
  try simp
  refine Tells.st1 oe5 g5.1.cells g5.1.one (by simp [evC]) fun h6 oe6 x6 => ?_
  have o6 : Ob h6 b2 [I 0, I 0, I 0, I 0, I 0, .nils, .nils] := (((o2.e x3).ext x4 (by simpa using hne.symm)).e x5).ext x6 (by simpa using hne.symm)
  have a6 := (((g3.1.ext x4).ext x5).ext x6)
  have s6 := g5.1.ext x6
  simp [oe6.1, evC]
  refine Tells.stN o6 (ds := evC x v3 v5) (by rfl) (by rfl) (by simp [evC, a6.one, s6.one]) (by rfl) fun h7 o7 x7 => ?_
  simp [C_hold_clone_0, o7.1, evC]
  have e12 := x1.trans x2
  have nx := x1.next
  have e4 : Ext [] h h4 := (e12.trans x3).then x4 fun z hz => .inr (by simp at hz; omega)
  have e6 : Ext [] h h6 := (e4.trans x5).then x6 fun z hz => .inr (by simp at hz; omega)
  have e7 : Ext [] h h7 := e6.then x7 fun z hz => .inr (by simp at hz; omega)
  exact Tells.ok (hQ _ _ ⟨v3, v5, rfl, a6.ext x7, s6.ext x7, ((((w3.ext x4).ext x5).ext x6).ext x7).back e12.next, ((w5.ext x6).ext x7).back e4.next, e7⟩)
end
end Go.Proofs.Ytbpbdigehfkjjaa
