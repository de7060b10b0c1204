/-
  Texts of a claim, merged: DkA, DkB, DkC, DkD, DkE, DkF, DkG, DkH, DkI, DkJ.
-/
import Derived.Test.YtbolfamaffbnnaaM1
import Derived.WalkKit
import Derived.Test.YtbolfamaffbnnaaSprecentorref14
import Derived.Test.YtbolfamaffbnnaaSprecentorlaw22
import Derived.Test.YtbolfamaffbnnaaABProg
set_option linter.unusedVariables false
set_option linter.unusedSimpArgs false
/-! Law DeskTells: what a desk is; the program's: seat, Attach, Hear, Poll, Log. -/
namespace Go.Proofs.Ytbolfamaffbnnaa
open Go.Ab

/-- A client. -/
structure Cl where
  here : Bool
  subs : List Sx
  last : Int
  busy : Bool
  gone : Bool
  num : Int
  log : List Sn
  read : Nat
def cl0 : Cl := ⟨false, [], 0, false, false, 0, [], 0⟩
structure SeatR (h0 h : Heap) (s : Seat) (x : Cl) : Prop where
  here : s.here = x.here
  given : s.given = x.last
  busy : s.busy = x.busy
  gone : s.gone = x.gone
  num : s.num = x.num
  read : s.read = x.read
  vs : Sl sxR h s.vsub x.subs
  vl : Gl snR h0 h s.vlog x.log
theorem SeatR.ext {h0 h h' : Heap} {s : Seat} {x : Cl} {S : List Nat} (r : SeatR h0 h s x) (e : Ext S h h') (hs : ∀ b, b ∈ s.vlog.blks → b ∉ S) : SeatR h0 h' s x := ⟨r.here, r.given, r.busy, r.gone, r.num, r.read, r.vs.ext e, r.vl.ext e hs⟩
/-- The program's desk. -/
structure DeskP (gv : AVal) (h0 h : Heap) (b : Nat) (br : Int) (ss : List Seat) (xs : List Cl) : Prop where
  o : Ob h b (deskC br ss)
  l1 : ss.length = 7
  l2 : xs.length = 7
  r : ∀ (c : Nat) (s : Seat) (x : Cl), ss[c]? = some s → xs[c]? = some x → SeatR h0 h s x
  d : ∀ (c c' : Nat) (s s' : Seat), c ≠ c' → ss[c]? = some s → ss[c']? = some s' → ∀ b, b ∈ s.vlog.blks → b ∉ s'.vlog.blks
  gl : ∀ y, y ∈ gv.blks → y < h.next
  gd : ∀ (c : Nat) (s : Seat), ss[c]? = some s → ∀ y, y ∈ s.vlog.blks → y ∉ gv.blks
theorem DeskP.ext {gv : AVal} {h0 h h' : Heap} {b : Nat} {br : Int} {ss : List Seat} {xs : List Cl} {S : List Nat} (p : DeskP gv h0 h b br ss xs) (e : Ext S h h') (hb : b ∉ S) (hs : ∀ y, y ∈ S → h.isM y = true ∨ h.next ≤ y ∨ y ∈ gv.blks) : DeskP gv h0 h' b br ss xs := by
  refine ⟨p.o.ext e hb, p.l1, p.l2, fun c s x h1 h2 => (p.r c s x h1 h2).ext e fun y hy q => ?_, p.d, fun y hy => Nat.lt_of_lt_of_le (p.gl y hy) e.next, p.gd⟩
  have k := (p.r c s x h1 h2).vl.1.blk y hy
  rcases hs y q with z | z | z
  · rw [k.1] at z; cases z
  · omega
  · exact p.gd c s h1 y hy z
theorem DeskP.e {gv : AVal} {h0 h h' : Heap} {b : Nat} {br : Int} {ss : List Seat} {xs : List Cl} (p : DeskP gv h0 h b br ss xs) (e : Ext [] h h') : DeskP gv h0 h' b br ss xs := p.ext e (by simp) (by simp)
/-- A seat is another one; its log grew in place, perhaps. -/
theorem DeskP.set {gv : AVal} {h0 h h' : Heap} {b : Nat} {br : Int} {ss : List Seat} {xs : List Cl} {S : List Nat} {c : Nat} {s s' : Seat} {x x' : Cl} (p : DeskP gv h0 h b br ss xs) (hs : ss[c]? = some s) (hx : xs[c]? = some x) (e : Ext S h h') (hS : ∀ y, y ∈ S → h.isM y = true ∨ h.next ≤ y ∨ y ∈ s.vlog.blks)
    (o' : Ob h' b (deskC br (ss.set c s'))) (r' : SeatR h0 h' s' x') (hl : ∀ y, y ∈ s'.vlog.blks → y ∈ s.vlog.blks ∨ h.next ≤ y) : DeskP gv h0 h' b br (ss.set c s') (xs.set c x') := by
  have hc : c < 7 := by have := (List.getElem?_eq_some_iff.1 hs).1; have := p.l1; omega
  have lt : ∀ (c1 : Nat) (s1 : Seat), ss[c1]? = some s1 → ∀ y, y ∈ s1.vlog.blks → h.isM y = false ∧ y < h.next := fun c1 s1 h1 y hy => by
    obtain ⟨x1, h2⟩ : ∃ x1, xs[c1]? = some x1 := ⟨_, List.getElem?_eq_getElem (by have := (List.getElem?_eq_some_iff.1 h1).1; have := p.l1; have := p.l2; omega)⟩
    exact (p.r c1 s1 x1 h1 h2).vl.1.blk y hy
  refine ⟨o', by simp [p.l1], by simp [p.l2], fun c1 s1 x1 h1 h2 => ?_, fun c1 c2 s1 s2 hne h1 h2 y hy => ?_, fun y hy => Nat.lt_of_lt_of_le (p.gl y hy) e.next, fun c1 s1 h1 y hy => ?_⟩
  · rw [List.getElem?_set] at h1 h2
    by_cases q : c = c1
    · subst q
      rw [if_pos rfl, if_pos (by rw [p.l1]; exact hc)] at h1
      rw [if_pos rfl, if_pos (by rw [p.l2]; exact hc)] at h2
      cases h1; cases h2
      exact r'
    · rw [if_neg q] at h1 h2
      refine (p.r c1 s1 x1 h1 h2).ext e fun y hy z => ?_
      obtain ⟨k1, k2⟩ := lt c1 s1 h1 y hy
      rcases hS y z with w | w | w
      · rw [k1] at w; cases w
      · omega
      · exact p.d c c1 s s1 q hs h1 y w hy
  · rw [List.getElem?_set] at h1 h2
    by_cases q : c = c1
    · subst q
      rw [if_pos rfl, if_pos (by rw [p.l1]; exact hc)] at h1
      cases h1
      rw [if_neg hne] at h2
      rcases hl y hy with w | w
      · exact p.d c c2 s s2 hne hs h2 y w
      · intro z; have := (lt c2 s2 h2 y z).2; omega
    · rw [if_neg q] at h1
      by_cases q2 : c = c2
      · subst q2
        rw [if_pos rfl, if_pos (by rw [p.l1]; exact hc)] at h2
        cases h2
        intro z
        rcases hl y z with w | w
        · exact p.d c1 c s1 s hne h1 hs y hy w
        · have := (lt c1 s1 h1 y hy).2; omega
      · rw [if_neg q2] at h2
        exact p.d c1 c2 s1 s2 hne h1 h2 y hy
  · rw [List.getElem?_set] at h1
    by_cases q : c = c1
    · subst q
      rw [if_pos rfl, if_pos (by rw [p.l1]; exact hc)] at h1
      cases h1
      rcases hl y hy with w | w
      · exact p.gd c s hs y w
      · intro z; have := p.gl y z; omega
    · rw [if_neg q] at h1
      exact p.gd c1 s1 h1 y hy
/-- The guest's row grew. -/
theorem DeskP.grow {gv gv' : AVal} {h0 h h' : Heap} {b : Nat} {br : Int} {ss : List Seat} {xs : List Cl} {S : List Nat} (p : DeskP gv h0 h b br ss xs) (e : Ext S h h') (hb : b ∉ S) (hs : ∀ y, y ∈ S → h.isM y = true ∨ h.next ≤ y ∨ y ∈ gv.blks) (k : ∀ y, y ∈ gv'.blks → y ∈ gv.blks ∨ h.next ≤ y) (lt : ∀ y, y ∈ gv'.blks → y < h'.next) : DeskP gv' h0 h' b br ss xs := by
  have p' := p.ext e hb hs
  refine ⟨p'.o, p'.l1, p'.l2, p'.r, p'.d, lt, fun c s h1 y hy z => ?_⟩
  obtain ⟨x1, h2⟩ : ∃ x1, xs[c]? = some x1 := ⟨_, List.getElem?_eq_getElem (by have := (List.getElem?_eq_some_iff.1 h1).1; have := p.l1; have := p.l2; omega)⟩
  rcases k y z with w | w
  · exact p.gd c s h1 y hy w
  · have := ((p.r c s x1 h1 h2).vl.1.blk y hy).2; omega
theorem set_same {α : Type} {l : List α} {c : Nat} {x : α} (h : l[c]? = some x) : l.set c x = l := by
  apply List.ext_getElem?
  intro j
  rw [List.getElem?_set]
  by_cases e : c = j
  · subst e; rw [if_pos rfl, if_pos (List.getElem?_eq_some_iff.1 h).1, h]
  · rw [if_neg e]

/-! ### answers -/
def attE (c : Nat) (x : Cl) : Int := if c = 0 then 1 else if x.here = true then 5 else 0
def attX (c : Nat) (x : Cl) : Cl := if attE c x = 0 then { x with here := true } else x
def subE (x : Cl) (right : Bool) : Int := if x.here = false then 4 else if right = false then 3 else if x.busy = true then 7 else if 3 ≤ x.subs.length then 6 else 0
def cg0 : Cg := ⟨false, ⟨0, 0, 0, []⟩⟩
def subG (br : Int) (c : Nat) (x : Cl) (fl : List Prd) (e : Int) : Cg := if e = 0 then ⟨false, ⟨c, br, x.last + 1, fl⟩⟩ else cg0
def subX (x : Cl) (e : Int) : Cl := if e = 0 then { x with last := x.last + 1, busy := true, gone := false, num := x.last + 1 } else x
def unsE (c : Nat) (x : Cl) (n : Int) : Int := if x.here = false then 4 else if x.busy = true then 7 else if x.subs.any (sameK c n) = true then 0 else 4
def unsG (br : Int) (c : Nat) (n : Int) (e : Int) : Cg := if e = 0 then ⟨true, ⟨c, br, n, []⟩⟩ else cg0
def unsX (x : Cl) (n : Int) (e : Int) : Cl := if e = 0 then { x with busy := true, gone := true, num := n } else x
def openX (c : Nat) (now : List Sx) (x : Cl) : Cl := if x.here = true then { x with subs := ofL now c, busy := x.busy && (x.gone == (ofL now c).any (sameK c x.num)) } else x
def hearX (x : Cl) (s : Sn) : Cl := if x.here = true then { x with log := x.log ++ [s] } else x
def pollE (x : Cl) : Int := if x.here = true ∧ x.read < x.log.length then 0 else 4
def pollS (x : Cl) : Sn := if pollE x = 0 then x.log[x.read]?.getD sn0 else sn0
def pollX (x : Cl) : Cl := if pollE x = 0 then { x with read := x.read + 1 } else x

section
variable {X : XTab} {gv : AVal} {h0 h : Heap} {b : Nat} {br : Int} {ss : List Seat} {xs : List Cl} {c : Nat} {x : Cl}

theorem p_seat (hX : OnlyKnown X) (p : DeskP gv h0 h b br ss xs) (hx : xs[c]? = some x) (hz : c = 0 → x.here = false) :
    Tells (fun q => acallX Try.prog X q F_desk_Desk_seat [.ptr b 0, I c] h) fun a h' => a = (if x.here = true then .ptr b (1 + c * 8) else .nilp) ∧ h' = h := by
  have hc : c < 7 := by have := (List.getElem?_eq_some_iff.1 hx).1; have := p.l2; omega
  obtain ⟨s, hs⟩ : ∃ s, ss[c]? = some s := ⟨_, List.getElem?_eq_getElem (by rw [p.l1]; exact hc)⟩
  have r := p.r c s x hs hx
  by_cases h0 : c = 0
  · subst h0
    refine R_desk_Desk_seat _ _ (hX _ _ rfl) ?_
    unfold S_desk_Desk_seat
    simp
    exact Tells.ok ⟨by rw [hz rfl]; rfl, rfl⟩
  · rw [← r.here]
    exact desk_seat hX p.o p.l1 (by omega) hs
theorem p_Attach (hX : OnlyKnown X) (p : DeskP gv h0 h b br ss xs) (hx : xs[c]? = some x) :
    Tells (fun q => acallX Try.prog X q F_desk_Desk_Attach [.ptr b 0, I c] h) fun a h' => a = I (attE c x) ∧ (∃ ss', DeskP gv h0 h' b br ss' (xs.set c (attX c x))) ∧ Ext [b] h h' := by
  have hc : c < 7 := by have := (List.getElem?_eq_some_iff.1 hx).1; have := p.l2; omega
  obtain ⟨s, hs⟩ : ∃ s, ss[c]? = some s := ⟨_, List.getElem?_eq_getElem (by rw [p.l1]; exact hc)⟩
  have r := p.r c s x hs hx
  by_cases h1 : c = 0
  · subst h1
    refine R_desk_Desk_Attach _ _ (hX _ _ rfl) ?_
    unfold S_desk_Desk_Attach
    simp
    exact Tells.ok ⟨rfl, ⟨ss, by simp [attX, attE]; rw [set_same hx]; exact p⟩, .refl⟩
  · cases hh : s.here with
    | true =>
      have hh' : x.here = true := by rw [← r.here]; exact hh
      refine R_desk_Desk_Attach _ _ (hX _ _ rfl) ?_
      have hp := ixp_at (len := 7) (z := 8) (b := b) (o := 1) hc
      have at0 := deskC_at (br := br) hs (k := 0) (by decide)
      rw [Nat.add_zero] at at0
      unfold S_desk_Desk_Attach
      simp [show ¬ (c : Int) < 1 by omega, show ¬ (6 : Int) < c by omega, J_desk_Desk_Attach_0, hp, p.o.1, at0, seatC, hh]
      exact Tells.ok ⟨by simp [attE, h1, hh'], ⟨ss, by simp [attX, attE, h1, hh']; rw [set_same hx]; exact p⟩, .refl⟩
    | false =>
      have hh' : x.here = false := by rw [← r.here]; exact hh
      refine (desk_Attach hX p.o p.l1 (by omega) hs hh).mono ?_
      rintro a h' ⟨rfl, o', e⟩
      refine ⟨by simp [attE, h1, hh'], ⟨ss.set c { s with here := true }, ?_⟩, e⟩
      have : attX c x = { x with here := true } := by simp [attX, attE, h1, hh']
      rw [this]
      refine p.set hs hx e (fun y hy => .inl (by simp at hy; subst hy; exact p.o.2.1)) o' ⟨rfl, r.given, r.busy, r.gone, r.num, r.read, r.vs.ext e, r.vl.ext e fun y hy q => ?_⟩ (fun y hy => .inl hy)
      simp at q; subst q
      exact r.vl.1.ob p.o hy
end
end Go.Proofs.Ytbolfamaffbnnaa

/-! Law DeskTells: the program's Hear, Poll, Log. -/
namespace Go.Proofs.Ytbolfamaffbnnaa
open Go.Ab

section
variable {X : XTab} {gv : AVal} {h0 h : Heap} {b : Nat} {br : Int} {ss : List Seat} {xs : List Cl} {c : Nat} {x : Cl}

theorem p_Hear (hX : OnlyKnown X) (p : DeskP gv h0 h b br ss xs) (hx : xs[c]? = some x) (hz : c = 0 → x.here = false) (hle : h0.next ≤ h.next) (hlog : x.log.length < 2 ^ 30) {sn : Sn} {va : AVal} (oa : Sl attrR h va sn.ats) (la : sn.ats.length ≤ 100) :
    Tells (fun q => acallX Try.prog X q F_desk_Desk_Hear [.ptr b 0, I c, .agg (snC sn va)] h) fun a h' => a = .bool x.here ∧ (∃ ss', DeskP gv h0 h' b br ss' (xs.set c (hearX x sn))) ∧ (∃ S, Ext S h h' ∧ ∀ y, y ∈ S → y = b ∨ (h.isM y = false ∧ y ∉ gv.blks)) ∧ (∀ S, b ∈ S → Ext S h0 h → Ext S h0 h') := by
  have hc : c < 7 := by have := (List.getElem?_eq_some_iff.1 hx).1; have := p.l2; omega
  obtain ⟨s, hs⟩ : ∃ s, ss[c]? = some s := ⟨_, List.getElem?_eq_getElem (by rw [p.l1]; exact hc)⟩
  have r := p.r c s x hs hx
  cases hh : x.here with
  | true =>
    have h1 : 1 ≤ c := by
      have : c ≠ 0 := fun q => by have := hz q; rw [hh] at this; cases this
      omega
    refine (desk_Hear hX p.o p.l1 h1 hs (r.here.trans hh) r.vl hle hlog oa la).mono ?_
    rintro a h' ⟨rfl, e, e2, vl', o', gl', bl'⟩
    refine ⟨rfl, ⟨ss.set c { s with vlog := vl' }, ?_⟩, ⟨_, e, fun y hy => ?_⟩, e2⟩
    · have : hearX x sn = { x with log := x.log ++ [sn] } := by simp [hearX, hh]
      rw [this]
      exact p.set hs hx e (fun y hy => by
        rcases List.mem_cons.1 hy with q | q
        · subst q; exact .inl p.o.2.1
        · exact .inr (.inr q)) o' ⟨r.here, r.given, r.busy, r.gone, r.num, r.read, r.vs.ext e, gl'⟩ bl'
    · rcases List.mem_cons.1 hy with q | q
      · exact .inl q
      · exact .inr ⟨(r.vl.1.blk y q).1, p.gd c s hs y q⟩
  | false =>
    refine R_desk_Desk_Hear _ _ _ (hX _ _ rfl) ?_
    refine Tells.prot fun Q' hQ => ?_
    unfold S_desk_Desk_Hear
    try simp
    refine Tells.box (cs := snC sn va) (by simp [snC, AVal.known, oa.known]) (by simp [snC, AVal.cells]) fun g1 be oe x1 l1 => ?_
    try simp
    refine Tells.bind (p_seat hX (p.e x1) hx hz) ?_
    rintro _ g1 ⟨rfl, rfl⟩
    have nn : ∀ y z, aBin Try.prog .eql 79 y z .nilp .nilp = some (.bool true) := fun y z => by kernel_rfl
    simp [hh, nn]
    refine Tells.ok (hQ _ _ ⟨rfl, ⟨ss, ?_⟩, ⟨[], x1, by simp⟩, fun S _ k => k.quiet x1⟩)
    have : hearX x sn = x := by simp [hearX, hh]
    rw [this, set_same hx]
    exact p.e x1

theorem p_Poll (hX : OnlyKnown X) (p : DeskP gv h0 h b br ss xs) (hx : xs[c]? = some x) (hz : c = 0 → x.here = false) (hlog : x.log.length < 2 ^ 30) (hat : ∀ y, y ∈ x.log → y.ats.length ≤ 100) :
    Tells (fun q => acallX Try.prog X q F_desk_Desk_Poll [.ptr b 0, I c] h) fun a h' => (∃ va, a = .tup [.agg (snC (pollS x) va), I (pollE x)] ∧ Sl attrR h' va (pollS x).ats) ∧ (∃ ss', DeskP gv h0 h' b br ss' (xs.set c (pollX x))) ∧ Ext [b] h h' := by
  have hc : c < 7 := by have := (List.getElem?_eq_some_iff.1 hx).1; have := p.l2; omega
  obtain ⟨s, hs⟩ : ∃ s, ss[c]? = some s := ⟨_, List.getElem?_eq_getElem (by rw [p.l1]; exact hc)⟩
  have r := p.r c s x hs hx
  cases hh : x.here with
  | true =>
    have h1 : 1 ≤ c := by
      have : c ≠ 0 := fun q => by have := hz q; rw [hh] at this; cases this
      omega
    refine (desk_Poll hX p.o p.l1 h1 hs (r.here.trans hh) r.vl.1 hlog hat r.read).mono ?_
    rintro a h' ⟨e, ⟨hn, rfl, o'⟩ | ⟨y, va, hy, rfl, oa, o'⟩⟩
    · have hE : pollE x = 4 := by
        have : ¬ x.read < x.log.length := by have := List.getElem?_eq_none_iff.1 hn; omega
        simp [pollE, this]
      refine ⟨⟨.nils, by simp [pollS, hE], by simp [pollS, hE, sn0]; exact Sl.nil⟩, ⟨ss, ?_⟩, e⟩
      have : pollX x = x := by simp [pollX, hE]
      rw [this]
      have := p.set hs hx e (fun y hy => .inl (by simp at hy; subst hy; exact p.o.2.1)) (s' := s) (by rw [set_same hs]; exact o') (r.ext e fun y hy q => by simp at q; subst q; exact r.vl.1.ob p.o hy) (fun y hy => .inl hy)
      rw [set_same hs] at this
      exact this
    · have hlt := (List.getElem?_eq_some_iff.1 hy).1
      have hE : pollE x = 0 := by simp [pollE, hh, hlt]
      have hS : pollS x = y := by simp only [pollS, hE, if_true, hy, Option.getD_some]
      refine ⟨⟨va, by rw [hS, hE], by rw [hS]; exact oa⟩, ⟨ss.set c { s with read := (x.read : Int) + 1 }, ?_⟩, e⟩
      have : pollX x = { x with read := x.read + 1 } := by simp [pollX, hE]
      rw [this]
      exact p.set hs hx e (fun y hy => .inl (by simp at hy; subst hy; exact p.o.2.1)) o' ⟨r.here, r.given, r.busy, r.gone, r.num, by simp, r.vs.ext e, r.vl.ext e fun y hy q => by simp at q; subst q; exact r.vl.1.ob p.o hy⟩ (fun y hy => .inl hy)
  | false =>
    have hE : pollE x = 4 := by simp [pollE, hh]
    refine R_desk_Desk_Poll _ _ (hX _ _ rfl) ?_
    refine Tells.prot fun Q' hQ => ?_
    unfold S_desk_Desk_Poll
    try simp
    refine Tells.new fun g1 b2 o2 x1 l1 => ?_
    have hne : b ≠ b2 := by have := p.o.lt; omega
    try simp
    refine Tells.bind (p_seat hX (p.e x1) hx hz) ?_
    rintro _ g1 ⟨rfl, rfl⟩
    have nn : ∀ y z, aBin Try.prog .eql 79 y z .nilp .nilp = some (.bool true) := fun y z => by kernel_rfl
    simp [hh, nn, bldR, fillR]
    refine Tells.stN o2 (ds := snC sn0 .nils) (by rfl) (by rfl) (by rfl) (by rfl) fun g2 o3 x2 => ?_
    simp [C_desk_Desk_Poll_0, o3.1, snC]
    refine Tells.ok (hQ _ _ ⟨⟨.nils, by simp [pollS, hE, snC], by simp [pollS, hE, sn0]; exact Sl.nil⟩, ⟨ss, ?_⟩, x1.of.then x2 fun z hz => .inr (by simp at hz; omega)⟩)
    have : pollX x = x := by simp [pollX, hE]
    rw [this, set_same hx]
    exact (p.e x1).ext x2 (by simpa using hne) (fun y hy => .inl (by simp at hy; subst hy; exact o2.2.1))

theorem p_Log (hX : OnlyKnown X) (p : DeskP gv h0 h b br ss xs) (hx : xs[c]? = some x) (hz : c = 0 → x.here = false) (hlog : x.log.length < 2 ^ 30) (hat : ∀ y, y ∈ x.log → y.ats.length ≤ 100) :
    Tells (fun q => acallX Try.prog X q F_desk_Desk_Log [.ptr b 0, I c] h) fun a h' => (∃ l, Sl snR h' a l ∧ l.length = if x.here = true then x.log.length else 0) ∧ Ext [] h h' := by
  have hc : c < 7 := by have := (List.getElem?_eq_some_iff.1 hx).1; have := p.l2; omega
  obtain ⟨s, hs⟩ : ∃ s, ss[c]? = some s := ⟨_, List.getElem?_eq_getElem (by rw [p.l1]; exact hc)⟩
  have r := p.r c s x hs hx
  cases hh : x.here with
  | true =>
    have h1 : 1 ≤ c := by
      have : c ≠ 0 := fun q => by have := hz q; rw [hh] at this; cases this
      omega
    refine (desk_Log hX p.o p.l1 h1 hs (r.here.trans hh) r.vl.1 hlog hat).mono ?_
    rintro a h' ⟨e, ol⟩
    exact ⟨⟨_, ol, by simp⟩, e⟩
  | false =>
    refine R_desk_Desk_Log _ _ (hX _ _ rfl) ?_
    refine Tells.prot fun Q' hQ => ?_
    unfold S_desk_Desk_Log
    try simp
    refine Tells.bind (p_seat hX p hx hz) ?_
    rintro _ g1 ⟨rfl, rfl⟩
    have nn : ∀ y z, aBin Try.prog .neq 79 y z .nilp .nilp = some (.bool false) := fun y z => by kernel_rfl
    simp [hh, nn, J_desk_Desk_Log_0]
    exact Tells.ok (hQ _ _ ⟨⟨[], Sl.nil, by simp⟩, .refl⟩)
end
end Go.Proofs.Ytbolfamaffbnnaa

/-! Law DeskTells: the program's Subscribe. -/
namespace Go.Proofs.Ytbolfamaffbnnaa
open Go.Ab

theorem rightP_set {p : Prd} (h : rightP p = true) : p.set.length ≤ 4 := by
  unfold rightP at h
  rw [Bool.and_eq_true] at h
  have h := h.2
  repeat' split at h
  all_goals first | (simp only [Bool.and_eq_true, decide_eq_true_eq] at h; omega) | (cases h)
theorem rightFs_all : ∀ {l : List Prd} {q : Option ByteArray}, rightFs q l = true → ∀ p, p ∈ l → rightP p = true
  | [], _, _, p, hp => by simp at hp
  | x :: l, q, h, p, hp => by
    unfold rightFs at h
    simp only [Bool.and_eq_true] at h
    rcases List.mem_cons.1 hp with e | e
    · subst e; exact h.1.1
    · exact rightFs_all h.2 p e
theorem rightFl_sz {fl : List Prd} (h : rightFl fl = true) : fl.length ≤ 1000 ∧ ∀ p, p ∈ fl → p.set.length ≤ 1000 := by
  unfold rightFl at h
  simp only [Bool.and_eq_true, decide_eq_true_eq] at h
  exact ⟨by omega, fun p hp => by have := rightP_set (rightFs_all h.2 p hp); omega⟩
def cgC (g : Cg) (v : AVal) : List AVal := .bool g.gone :: sxC g.s v

section
variable {X : XTab} {gv : AVal} {h0 h : Heap} {b : Nat} {br : Int} {ss : List Seat} {xs : List Cl} {c : Nat} {x : Cl}

theorem p_Sub (hX : OnlyKnown X) (p : DeskP gv h0 h b br ss xs) (hx : xs[c]? = some x) (hz : c = 0 → x.here = false) (hg : 0 ≤ x.last ∧ x.last < 2 ^ 61) {fv : AVal} {fl : List Prd} (of_ : SlN prR h fv fl) (lf : fl.length ≤ 1000) (sz : ∀ q, q ∈ fl → SzN q) :
    Tells (fun q => acallX Try.prog X q F_desk_Desk_Subscribe [.ptr b 0, I c, fv] h) fun a h' => (∃ v, a = .tup [.agg (cgC (subG br c x fl (subE x (rightFl fl))) v), I (subE x (rightFl fl))] ∧ SlN prR h' v (subG br c x fl (subE x (rightFl fl))).s.fl) ∧ (∃ ss', DeskP gv h0 h' b br ss' (xs.set c (subX x (subE x (rightFl fl))))) ∧ Ext [b] h h' := by
  have hc : c < 7 := by have := (List.getElem?_eq_some_iff.1 hx).1; have := p.l2; omega
  obtain ⟨s, hs⟩ : ∃ s, ss[c]? = some s := ⟨_, List.getElem?_eq_getElem (by rw [p.l1]; exact hc)⟩
  have r := p.r c s x hs hx
  have hl := p.l1
  refine R_desk_Desk_Subscribe _ _ _ (hX _ _ rfl) ?_
  refine Tells.prot fun Q' hQ => ?_
  have at1 := deskC_at (br := br) hs (k := 1) (by decide)
  have at2 := deskC_at (br := br) hs (k := 2) (by decide)
  have at3 := deskC_at (br := br) hs (k := 3) (by decide)
  unfold S_desk_Desk_Subscribe
  try simp
  refine Tells.new fun g1 b2 o2 x1 l1 => ?_
  have hne : b ≠ b2 := by have := p.o.lt; omega
  have p1 := p.e x1
  have o1 := p1.o
  -- an error, and how it ends
  have no : ∀ (e : Int) (g : Heap), subE x (rightFl fl) = e → e ≠ 0 → Ext [] h g → ∀ (h' : Heap), Ob h' b2 (.bool false :: sxC ⟨0, 0, 0, []⟩ .nils) → Ext [b2] g h' → b2 < g.next → g.isM b2 = true → DeskP gv h0 g b br ss xs → Q' (.tup [.agg (.bool false :: sxC ⟨0, 0, 0, []⟩ .nils), I e]) h' := by
    intro e g he h0' xg h' oh xh hb2 hm pg
    have e1 : subG br c x fl e = cg0 := by simp [subG, h0']
    have e2 : subX x e = x := by simp [subX, h0']
    refine hQ _ _ ⟨⟨.nils, by rw [he, e1]; rfl, by rw [he, e1]; exact SlN.nil⟩, ⟨ss, ?_⟩, (xg.of).then xh fun z hz => .inr (by simp at hz; omega)⟩
    rw [he, e2, set_same hx]
    exact pg.ext xh (by simpa using hne) fun y hy => .inl (by simp at hy; subst hy; exact hm)
  have nn : ∀ y z, aBin Try.prog .eql 79 y z .nilp .nilp = some (.bool true) := fun y z => by kernel_rfl
  have pn := fun y z => ptr_nil (t := 79) Try.underlying79 y z b (1 + c * 8)
  try simp
  refine Tells.bind (p_seat hX p1 hx hz) ?_
  rintro _ g1 ⟨rfl, rfl⟩
  cases hh : x.here with
  | false =>
    have he : subE x (rightFl fl) = 4 := by simp [subE, hh]
    simp [nn, bldR, fillR]
    refine Tells.stN o2 (ds := .bool false :: sxC ⟨0, 0, 0, []⟩ .nils) (by rfl) (by rfl) (by rfl) (by rfl) fun g2 o3 x2 => ?_
    simp [C_desk_Desk_Subscribe_0, o3.1, sxC]
    exact Tells.ok (no 4 g1 he (by decide) x1 g2 o3 x2 o2.lt o2.2.1 p1)
  | true =>
    have hsh : s.here = true := r.here.trans hh
    simp [pn]
    refine Tells.bind (filter_Right hX (of_.ext x1) lf sz) ?_
    rintro _ g2 ⟨rfl, x2⟩
    have X2 := x1.trans x2
    have p2 := p1.e x2
    have o22 := o2.e x2
    have o12 := p2.o
    cases hr : rightFl fl with
    | false =>
      have he : subE x (rightFl fl) = 3 := by simp [subE, hh, hr]
      simp [bldR, fillR]
      refine Tells.stN o22 (ds := .bool false :: sxC ⟨0, 0, 0, []⟩ .nils) (by rfl) (by rfl) (by rfl) (by rfl) fun g3 o3 x3 => ?_
      simp [C_desk_Desk_Subscribe_0, o3.1, sxC]
      exact Tells.ok (no 3 g2 he (by decide) X2 g3 o3 x3 o22.lt o22.2.1 p2)
    | true =>
      rw [hr] at no hQ
      cases hb : x.busy with
      | true =>
        have hsb : s.busy = true := r.busy.trans hb
        have he : subE x true = 7 := by simp [subE, hh, hb]
        simp [o12.1, at3, seatC, hsb, bldR, fillR]
        refine Tells.stN o22 (ds := .bool false :: sxC ⟨0, 0, 0, []⟩ .nils) (by rfl) (by rfl) (by rfl) (by rfl) fun g3 o3 x3 => ?_
        simp [C_desk_Desk_Subscribe_0, o3.1, sxC]
        exact Tells.ok (no 7 g2 he (by decide) X2 g3 o3 x3 o22.lt o22.2.1 p2)
      | false =>
        have hsb : s.busy = false := r.busy.trans hb
        have lo := r.vs.ext X2
        by_cases h3 : 3 ≤ x.subs.length
        · have he : subE x true = 6 := by simp [subE, hh, hb, h3]
          simp [o12.1, at1, at3, seatC, hsb, lo.len, show (3 : Int) ≤ x.subs.length by omega, h3, bldR, fillR]
          refine Tells.stN o22 (ds := .bool false :: sxC ⟨0, 0, 0, []⟩ .nils) (by rfl) (by rfl) (by rfl) (by rfl) fun g3 o3 x3 => ?_
          simp [C_desk_Desk_Subscribe_0, o3.1, sxC]
          exact Tells.ok (no 6 g2 he (by decide) X2 g3 o3 x3 o22.lt o22.2.1 p2)
        · have he : subE x true = 0 := by simp [subE, hh, hb, h3]
          have hgv := r.given
          have w : IntKind.i64.wrap (s.given + 1) = s.given + 1 := wrap_id (by omega) (by omega)
          have hlen : ∀ ss' : List Seat, ss'.length = 7 → ∀ k, k < 8 → 1 + c * 8 + k < (deskC br ss').length := fun ss' h k hk => by rw [deskC_len, h]; omega
          simp [o12.1, at1, at2, at3, seatC, hsb, lo.len, show ¬ (3 : Int) ≤ x.subs.length by omega, h3, show ¬ (4611686018427387904 : Int) ≤ s.given by omega, J_desk_Desk_Subscribe_0, w]
          refine Tells.st1 o12 (by rfl) (by rfl) (hlen _ hl 2 (by decide)) fun g3 oA xA => ?_
          rw [deskC_set (br := br) (s' := { s with given := s.given + 1 }) hs (k := 2) (by decide) rfl] at oA
          have hcA : (ss.set c { s with given := s.given + 1 })[c]? = some { s with given := s.given + 1 } := by rw [List.getElem?_set, if_pos rfl, if_pos (by omega)]
          have atA := deskC_at (br := br) hcA (k := 2) (by decide)
          simp [oA.1, atA, seatC]
          refine Tells.st1 oA (by rfl) (by rfl) (hlen _ (by simp [hl]) 3 (by decide)) fun g4 oB xB => ?_
          rw [deskC_set (br := br) (s' := { s with given := s.given + 1, busy := true }) hcA (k := 3) (by decide) rfl, List.set_set] at oB
          have hcB : (ss.set c { s with given := s.given + 1, busy := true })[c]? = some { s with given := s.given + 1, busy := true } := by rw [List.getElem?_set, if_pos rfl, if_pos (by omega)]
          try simp
          refine Tells.st1 oB (by rfl) (by rfl) (hlen _ (by simp [hl]) 4 (by decide)) fun g5 oC xC => ?_
          rw [deskC_set (br := br) (s' := { s with given := s.given + 1, busy := true, gone := false }) hcB (k := 4) (by decide) rfl, List.set_set] at oC
          have hcC : (ss.set c { s with given := s.given + 1, busy := true, gone := false })[c]? = some { s with given := s.given + 1, busy := true, gone := false } := by rw [List.getElem?_set, if_pos rfl, if_pos (by omega)]
          try simp
          refine Tells.st1 oC (by rfl) (by rfl) (hlen _ (by simp [hl]) 5 (by decide)) fun g6 oD xD => ?_
          rw [deskC_set (br := br) (s' := { s with given := s.given + 1, busy := true, gone := false, num := s.given + 1 }) hcC (k := 5) (by decide) rfl, List.set_set] at oD
          have hcD : (ss.set c { s with given := s.given + 1, busy := true, gone := false, num := s.given + 1 })[c]? = some { s with given := s.given + 1, busy := true, gone := false, num := s.given + 1 } := by rw [List.getElem?_set, if_pos rfl, if_pos (by omega)]
          have atD := deskC_at (br := br) hcD (k := 2) (by decide)
          have at0 : (deskC br (ss.set c { s with given := s.given + 1, busy := true, gone := false, num := s.given + 1 }))[0]? = some (I br) := rfl
          simp [oD.1, atD, at0, seatC]
          have X6 : Ext [b] g2 g6 := ((xA.trans xB).trans xC).trans xD
          obtain ⟨k1, k2⟩ := rightFl_sz hr
          refine Tells.cbE (filter_Copy hX ((of_.ext X2).ext X6) k1 k2) ?_
          rintro cv g7 ⟨rz, x7⟩
          have oD7 := oD.e x7
          have o27 := (o22.ext X6 (by simpa using hne.symm)).e x7
          have oc : SlN prR g7 cv fl := .inl rz.sl
          simp [oD7.1, atD, at0, seatC, bldR, fillR, splice, oc.known, oc.cells]
          refine Tells.stNE o27 (ds := .bool false :: sxC ⟨c, br, s.given + 1, fl⟩ cv) (by rfl) (by rfl) (by simp [sxC, oc.one]) (by rfl) fun g8 o8 x8 => ?_
          simp [C_desk_Desk_Subscribe_0, o8.1, sxC]
          have X7 : Ext [b] h g7 := (X2.of.trans X6).trans x7.of
          have e1 : subG br c x fl 0 = ⟨false, ⟨c, br, x.last + 1, fl⟩⟩ := by simp [subG]
          have e2 : subX x 0 = { x with last := x.last + 1, busy := true, gone := false, num := x.last + 1 } := by simp [subX]
          rw [he] at hQ
          refine Tells.ok (hQ _ _ ⟨⟨cv, by rw [e1, hgv]; rfl, by rw [e1]; exact oc.ext x8⟩, ⟨ss.set c { s with given := s.given + 1, busy := true, gone := false, num := s.given + 1 }, ?_⟩, X7.then x8 fun z hz => .inr (by simp at hz; omega)⟩)
          rw [e2]
          have p7 := p.set hs hx X7 (fun y hy => .inl (by simp at hy; subst hy; exact p.o.2.1)) (s' := { s with given := s.given + 1, busy := true, gone := false, num := s.given + 1 }) (x' := { x with last := x.last + 1, busy := true, gone := false, num := x.last + 1 }) oD7 ⟨r.here, by simp [hgv], rfl, rfl, by simp [hgv], r.read, r.vs.ext X7, r.vl.ext X7 fun y hy q => by simp at q; subst q; exact r.vl.1.ob p.o hy⟩ (fun y hy => .inl hy)
          exact p7.ext x8 (by simpa using hne) fun y hy => .inl (by simp at hy; subst hy; exact o27.2.1)
end
end Go.Proofs.Ytbolfamaffbnnaa

/-! Law DeskTells: the program's Unsubscribe, Busy, Clients. -/
namespace Go.Proofs.Ytbolfamaffbnnaa
open Go.Ab

def busyC (xs : List Cl) : Nat := xs.countP fun x => x.here && x.busy
/-- Who is here. -/
def hereN : Nat → List Cl → List Int
  | _, [] => []
  | i, x :: r => if x.here = true then (i : Int) :: hereN (i + 1) r else hereN (i + 1) r
theorem hereN_app {x : Cl} : ∀ {l : List Cl} {i : Nat}, hereN i (l ++ [x]) = hereN i l ++ if x.here = true then [((i + l.length : Nat) : Int)] else []
  | [], i => by simp [hereN]
  | y :: r, i => by
    have ih := hereN_app (x := x) (l := r) (i := i + 1)
    rw [List.cons_append]
    unfold hereN
    rw [ih]
    have e : i + 1 + r.length = i + (y :: r).length := by simp; omega
    rw [e]
    split <;> simp
theorem hereN_len : ∀ {l : List Cl} {i : Nat}, (hereN i l).length ≤ l.length
  | [], i => by simp [hereN]
  | y :: r, i => by
    unfold hereN
    have := hereN_len (l := r) (i := i + 1)
    split <;> simp <;> omega

section
variable {X : XTab} {gv : AVal} {h0 h : Heap} {b : Nat} {br : Int} {ss : List Seat} {xs : List Cl} {c : Nat} {x : Cl}

theorem p_Uns (hX : OnlyKnown X) (p : DeskP gv h0 h b br ss xs) (hx : xs[c]? = some x) (hz : c = 0 → x.here = false) (hls : x.subs.length ≤ 1000) (n : Int) :
    Tells (fun q => acallX Try.prog X q F_desk_Desk_Unsubscribe [.ptr b 0, I c, I n] h) fun a h' => a = .tup [.agg (cgC (unsG br c n (unsE c x n)) .nils), I (unsE c x n)] ∧ (∃ ss', DeskP gv h0 h' b br ss' (xs.set c (unsX x n (unsE c x n)))) ∧ Ext [b] h h' := by
  have hc : c < 7 := by have := (List.getElem?_eq_some_iff.1 hx).1; have := p.l2; omega
  obtain ⟨s, hs⟩ : ∃ s, ss[c]? = some s := ⟨_, List.getElem?_eq_getElem (by rw [p.l1]; exact hc)⟩
  have r := p.r c s x hs hx
  have hl := p.l1
  refine R_desk_Desk_Unsubscribe _ _ _ (hX _ _ rfl) ?_
  refine Tells.prot fun Q' hQ => ?_
  have at1 := deskC_at (br := br) hs (k := 1) (by decide)
  have at3 := deskC_at (br := br) hs (k := 3) (by decide)
  have hlen : ∀ ss' : List Seat, ss'.length = 7 → ∀ k, k < 8 → 1 + c * 8 + k < (deskC br ss').length := fun ss' h k hk => by rw [deskC_len, h]; omega
  unfold S_desk_Desk_Unsubscribe
  try simp
  refine Tells.new fun g1 b2 o2 x1 l1 => ?_
  have hne : b ≠ b2 := by have := p.o.lt; omega
  have p1 := p.e x1
  have o1 := p1.o
  have no : ∀ (e : Int) (g : Heap), unsE c x n = e → e ≠ 0 → Ext [] h g → ∀ (h' : Heap), Ext [b2] g h' → b2 < g.next → g.isM b2 = true → DeskP gv h0 g b br ss xs → Q' (.tup [.agg (cgC cg0 .nils), I e]) h' := by
    intro e g he h0' xg h' xh hb2 hm pg
    have e1 : unsG br c n e = cg0 := by simp [unsG, h0']
    have e2 : unsX x n e = x := by simp [unsX, h0']
    refine hQ _ _ ⟨by rw [he, e1], ⟨ss, ?_⟩, (xg.of).then xh fun z hz => .inr (by simp at hz; omega)⟩
    rw [he, e2, set_same hx]
    exact pg.ext xh (by simpa using hne) fun y hy => .inl (by simp at hy; subst hy; exact hm)
  have nn : ∀ y z, aBin Try.prog .eql 79 y z .nilp .nilp = some (.bool true) := fun y z => by kernel_rfl
  have pn := fun y z => ptr_nil (t := 79) Try.underlying79 y z b (1 + c * 8)
  try simp
  refine Tells.bind (p_seat hX p1 hx hz) ?_
  rintro _ g1 ⟨rfl, rfl⟩
  cases hh : x.here with
  | false =>
    have he : unsE c x n = 4 := by simp [unsE, hh]
    simp [nn, bldR, fillR]
    refine Tells.stN o2 (ds := cgC cg0 .nils) (by rfl) (by rfl) (by rfl) (by rfl) fun g2 o3 x2 => ?_
    simp [C_desk_Desk_Unsubscribe_0, o3.1, cgC, cg0, sxC]
    exact Tells.ok (no 4 g1 he (by decide) x1 g2 x2 o2.lt o2.2.1 p1)
  | true =>
    have hsh : s.here = true := r.here.trans hh
    cases hb : x.busy with
    | true =>
      have hsb : s.busy = true := r.busy.trans hb
      have he : unsE c x n = 7 := by simp [unsE, hh, hb]
      simp [pn, o1.1, at3, seatC, hsb, bldR, fillR]
      refine Tells.stN o2 (ds := cgC cg0 .nils) (by rfl) (by rfl) (by rfl) (by rfl) fun g2 o3 x2 => ?_
      simp [C_desk_Desk_Unsubscribe_0, o3.1, cgC, cg0, sxC]
      exact Tells.ok (no 7 g1 he (by decide) x1 g2 x2 o2.lt o2.2.1 p1)
    | false =>
      have hsb : s.busy = false := r.busy.trans hb
      simp [pn, o1.1, at1, at3, seatC, hsb]
      refine Tells.bind (subs_Has hX (r.vs.ext x1) hls c n) ?_
      rintro _ g2 ⟨rfl, x2⟩
      have X2 := x1.trans x2
      have p2 := p1.e x2
      have o12 := p2.o
      have o22 := o2.e x2
      cases ha : x.subs.any (sameK c n) with
      | false =>
        have he : unsE c x n = 4 := by simp only [unsE, hh, hb, ha]; rfl
        simp [bldR, fillR]
        refine Tells.stN o22 (ds := cgC cg0 .nils) (by rfl) (by rfl) (by rfl) (by rfl) fun g3 o3 x3 => ?_
        simp [C_desk_Desk_Unsubscribe_0, o3.1, cgC, cg0, sxC]
        exact Tells.ok (no 4 g2 he (by decide) X2 g3 x3 o22.lt o22.2.1 p2)
      | true =>
        have he : unsE c x n = 0 := by simp only [unsE, hh, hb, ha]; rfl
        simp [J_desk_Desk_Unsubscribe_0]
        refine Tells.st1 o12 (by rfl) (by rfl) (hlen _ hl 3 (by decide)) fun g3 oB xB => ?_
        rw [deskC_set (br := br) (s' := { s with busy := true }) hs (k := 3) (by decide) rfl] at oB
        have hcB : (ss.set c { s with busy := true })[c]? = some { s with busy := true } := by rw [List.getElem?_set, if_pos rfl, if_pos (by omega)]
        try simp
        refine Tells.st1 oB (by rfl) (by rfl) (hlen _ (by simp [hl]) 4 (by decide)) fun g4 oC xC => ?_
        rw [deskC_set (br := br) (s' := { s with busy := true, gone := true }) hcB (k := 4) (by decide) rfl, List.set_set] at oC
        have hcC : (ss.set c { s with busy := true, gone := true })[c]? = some { s with busy := true, gone := true } := by rw [List.getElem?_set, if_pos rfl, if_pos (by omega)]
        try simp
        refine Tells.st1 oC (by rfl) (by rfl) (hlen _ (by simp [hl]) 5 (by decide)) fun g5 oD xD => ?_
        rw [deskC_set (br := br) (s' := { s with busy := true, gone := true, num := n }) hcC (k := 5) (by decide) rfl, List.set_set] at oD
        have at0 : (deskC br (ss.set c { s with busy := true, gone := true, num := n }))[0]? = some (I br) := rfl
        have X5 : Ext [b] g2 g5 := (xB.trans xC).trans xD
        have o25 := o22.ext X5 (by simpa using hne.symm)
        simp [oD.1, at0, bldR, fillR, splice]
        refine Tells.stN o25 (ds := cgC ⟨true, ⟨c, br, n, []⟩⟩ .nils) (by rfl) (by rfl) (by rfl) (by rfl) fun g6 o6 x6 => ?_
        simp [C_desk_Desk_Unsubscribe_0, o6.1, cgC, sxC]
        have X7 : Ext [b] h g5 := X2.of.trans X5
        have e1 : unsG br c n 0 = ⟨true, ⟨c, br, n, []⟩⟩ := by simp [unsG]
        have e2 : unsX x n 0 = { x with busy := true, gone := true, num := n } := by simp [unsX]
        rw [he] at hQ
        refine Tells.ok (hQ _ _ ⟨by rw [e1]; rfl, ⟨ss.set c { s with busy := true, gone := true, num := n }, ?_⟩, X7.then x6 fun z hz => .inr (by simp at hz; omega)⟩)
        rw [e2]
        have p7 := p.set hs hx X7 (fun y hy => .inl (by simp at hy; subst hy; exact p.o.2.1)) (s' := { s with busy := true, gone := true, num := n }) (x' := { x with busy := true, gone := true, num := n }) oD ⟨r.here, r.given, rfl, rfl, rfl, r.read, r.vs.ext X7, r.vl.ext X7 fun y hy q => by simp at q; subst q; exact r.vl.1.ob p.o hy⟩ (fun y hy => .inl hy)
        exact p7.ext x6 (by simpa using hne) fun y hy => .inl (by simp at hy; subst hy; exact o25.2.1)

theorem p_Busy (hX : OnlyKnown X) (p : DeskP gv h0 h b br ss xs) (hz : ∀ y, xs[0]? = some y → y.here = false) :
    Tells (fun q => acallX Try.prog X q F_desk_Desk_Busy [.ptr b 0] h) fun a h' => a = I (busyC xs) ∧ h' = h := by
  refine R_desk_Desk_Busy _ (hX _ _ rfl) ?_
  refine Tells.prot fun Q' hQ => ?_
  unfold S_desk_Desk_Busy
  have l1 := p.l1
  have l2 := p.l2
  have nn : ∀ y z, aBin Try.prog .neq 79 y z .nilp .nilp = some (.bool false) := fun y z => by kernel_rfl
  try simp
  refine Tells.bind (Tells.loop (fun m t g => ∃ i : Nat, t 0 = .ptr b 0 ∧ t 3 = I (busyC (xs.take i)) ∧ t 6 = I i ∧ i + m = 7 ∧ g = h)
    (Q := fun q g => q.1 = .exit 0 ∧ q.2 3 = I (busyC xs) ∧ g = h) ?_ 7 _ _ ⟨0, by simp, by simp [busyC], by simp, by omega, rfl⟩) ?_
  · rintro m t g ⟨i, t0, t3, t6, hi, rfl⟩
    refine Tells.prot fun Q2 hQ2 => ?_
    unfold L_desk_Desk_Busy_1
    by_cases hc : i < 7
    · obtain ⟨s, hs⟩ : ∃ s, ss[i]? = some s := ⟨_, List.getElem?_eq_getElem (by omega)⟩
      obtain ⟨x, hx⟩ : ∃ x, xs[i]? = some x := ⟨_, List.getElem?_eq_getElem (by omega)⟩
      have r := p.r i s x hs hx
      have w : IntKind.i64.wrap ((i : Int) + 1) = i + 1 := wrap_id (by omega) (by omega)
      have ht : busyC (xs.take (i + 1)) = busyC (xs.take i) + if (x.here && x.busy) = true then 1 else 0 := by
        unfold busyC
        rw [List.take_add_one, hx]
        simp [List.countP_append, List.countP_cons]
      have hle : busyC (xs.take i) ≤ 7 := Nat.le_trans List.countP_le_length (by simp; omega)
      have wb : IntKind.i64.wrap ((busyC (xs.take i) : Int) + 1) = busyC (xs.take i) + 1 := wrap_id (by omega) (by omega)
      have at3 := deskC_at (br := br) hs (k := 3) (by decide)
      have pn := fun y z => ptr_nil' (t := 79) Try.underlying79 y z b (1 + i * 8)
      simp [t6, show (i : Int) < 7 by omega, J_desk_Desk_Busy_2, t0]
      refine Tells.bind (p_seat hX p hx fun q => by subst q; exact hz x hx) ?_
      rintro _ g ⟨rfl, rfl⟩
      cases hh : x.here with
      | false =>
        simp [nn, J_desk_Desk_Busy_3, t6, w]
        exact Tells.ok (hQ2 _ _ (.inl ⟨rfl, m - 1, by omega, i + 1, by simp [t0], by simp [t3, ht, hh], by simp, by omega, rfl⟩))
      | true =>
        cases hb : x.busy with
        | false =>
          have hsb : s.busy = false := r.busy.trans hb
          simp [pn, p.o.1, at3, seatC, hsb, J_desk_Desk_Busy_3, t6, w]
          exact Tells.ok (hQ2 _ _ (.inl ⟨rfl, m - 1, by omega, i + 1, by simp [t0], by simp [t3, ht, hh, hb], by simp, by omega, rfl⟩))
        | true =>
          have hsb : s.busy = true := r.busy.trans hb
          simp [pn, p.o.1, at3, seatC, hsb, J_desk_Desk_Busy_3, t6, t3, w, wb]
          exact Tells.ok (hQ2 _ _ (.inl ⟨rfl, m - 1, by omega, i + 1, by simp [t0], by simp [ht, hh, hb], by simp, by omega, rfl⟩))
    · have : i = 7 := by omega
      subst this
      simp [t6]
      exact Tells.ok (hQ2 _ _ (.inr ⟨by simp, rfl, by simp [t3, List.take_of_length_le (show xs.length ≤ 7 by omega)], rfl⟩))
  · rintro ⟨ex, t⟩ g ⟨rfl, t3, rfl⟩
    simp only at t3
    simp [J_desk_Desk_Busy_0, t3]
    exact Tells.ok (hQ _ _ ⟨rfl, rfl⟩)

theorem p_Clients (hX : OnlyKnown X) (p : DeskP gv h0 h b br ss xs) (hz : ∀ y, xs[0]? = some y → y.here = false) :
    Tells (fun q => acallX Try.prog X q F_desk_Desk_Clients [.ptr b 0] h) fun a h' => Sl intR h' a (hereN 0 xs) ∧ Ext [] h h' := by
  refine R_desk_Desk_Clients _ (hX _ _ rfl) ?_
  refine Tells.prot fun Q' hQ => ?_
  unfold S_desk_Desk_Clients
  have l1 := p.l1
  have l2 := p.l2
  have nn : ∀ y z, aBin Try.prog .neq 79 y z .nilp .nilp = some (.bool false) := fun y z => by kernel_rfl
  try simp
  refine Tells.bind (Tells.loop (fun m t g => ∃ i : Nat, t 0 = .ptr b 0 ∧ t 5 = I i ∧ i + m = 7 ∧ Gl intR h g (t 3) (hereN 0 (xs.take i)) ∧ Ext [] h g)
    (Q := fun q g => q.1 = .exit 0 ∧ Sl intR g (q.2 3) (hereN 0 xs) ∧ Ext [] h g) ?_ 7 _ _ ⟨0, by simp, by simp, by omega, by simpa [hereN] using Gl.nil, .refl⟩) ?_
  · rintro m t g ⟨i, t0, t5, hi, gl, xg⟩
    refine Tells.prot fun Q2 hQ2 => ?_
    unfold L_desk_Desk_Clients_1
    by_cases hc : i < 7
    · obtain ⟨x, hx⟩ : ∃ x, xs[i]? = some x := ⟨_, List.getElem?_eq_getElem (by omega)⟩
      have w : IntKind.i64.wrap ((i : Int) + 1) = i + 1 := wrap_id (by omega) (by omega)
      have lt : (xs.take i).length = i := by simp; omega
      have ht : hereN 0 (xs.take (i + 1)) = hereN 0 (xs.take i) ++ if x.here = true then [(i : Int)] else [] := by
        rw [List.take_add_one, hx, Option.toList_some, hereN_app, lt]
        simp
      have pn := fun y z => ptr_nil' (t := 79) Try.underlying79 y z b (1 + i * 8)
      have hln : (hereN 0 (xs.take i)).length ≤ 7 := Nat.le_trans hereN_len (by omega)
      simp [t5, show (i : Int) < 7 by omega, J_desk_Desk_Clients_2, t0]
      refine Tells.bind (p_seat hX (p.e xg) hx fun q => by subst q; exact hz x hx) ?_
      rintro _ g ⟨rfl, rfl⟩
      cases hh : x.here with
      | false =>
        simp [nn, J_desk_Desk_Clients_3, t5, w]
        exact Tells.ok (hQ2 _ _ (.inl ⟨rfl, m - 1, by omega, i + 1, by simp [t0], by simp, by omega, by rw [ht]; simpa [hh] using gl, xg⟩))
      | true =>
        simp [pn]
        refine Tells.app1 gl (by rfl) (by rfl) (show intR.rep g [I i] (i : Int) from rfl) (by rfl) (by rfl) (by omega) (by decide) xg.next fun s2 g2 gl2 x2 y2 _ => ?_
        simp [J_desk_Desk_Clients_3, t5, w]
        exact Tells.ok (hQ2 _ _ (.inl ⟨rfl, m - 1, by omega, i + 1, by simp [t0], by simp, by omega, by rw [ht, if_pos hh]; simpa using gl2, y2 [] xg⟩))
    · have : i = 7 := by omega
      subst this
      simp [t5]
      rw [List.take_of_length_le (show xs.length ≤ 7 by omega)] at gl
      exact Tells.ok (hQ2 _ _ (.inr ⟨by simp, rfl, by simpa using gl.1, xg⟩))
  · rintro ⟨ex, t⟩ g ⟨rfl, gl, xg⟩
    simp [J_desk_Desk_Clients_0]
    exact Tells.ok (hQ _ _ ⟨by simpa using gl, xg⟩)
end
end Go.Proofs.Ytbolfamaffbnnaa

/-! Law DeskTells: the program's Open. -/
namespace Go.Proofs.Ytbolfamaffbnnaa
open Go.Ab

/-- The first k are open. -/
def openL (now : List Sx) (k : Nat) (xs : List Cl) : List Cl := xs.mapIdx fun c x => if c < k then openX c now x else x
theorem openL_at {now : List Sx} {k : Nat} {xs : List Cl} (c : Nat) : (openL now k xs)[c]? = xs[c]?.map fun x => if c < k then openX c now x else x := by simp [openL]
theorem openL_zero {now : List Sx} {xs : List Cl} : openL now 0 xs = xs := by
  apply List.ext_getElem?
  intro c
  rw [openL_at]
  simp
theorem openL_len {now : List Sx} {k : Nat} {xs : List Cl} : (openL now k xs).length = xs.length := by simp [openL]
theorem openL_set {now : List Sx} {k : Nat} {xs : List Cl} {x : Cl} (hx : xs[k]? = some x) : (openL now k xs).set k (openX k now x) = openL now (k + 1) xs := by
  apply List.ext_getElem?
  intro c
  rw [List.getElem?_set, openL_at, openL_at, openL_len]
  have hk := (List.getElem?_eq_some_iff.1 hx).1
  by_cases e : k = c
  · subst e
    rw [if_pos rfl, if_pos hk, hx]
    simp
  · rw [if_neg e]
    congr 1
    funext y
    have : (c < k + 1) = (c < k) := by apply propext; omega
    simp only [this]

section
variable {X : XTab} {gv : AVal} {h0 h : Heap} {b : Nat} {br : Int} {ss : List Seat} {xs : List Cl}

theorem p_Open (hX : OnlyKnown X) (p : DeskP gv h0 h b br ss xs) (hz : ∀ y, xs[0]? = some y → y.here = false) {v : AVal} {now : List Sx} (ov : Sl sxR h v now) (sz : SzS now) :
    Tells (fun q => acallX Try.prog X q F_desk_Desk_Open [.ptr b 0, v] h) fun a h' => (∃ ss', DeskP gv h0 h' b br ss' (openL now 7 xs)) ∧ Ext [b] h h' := by
  refine R_desk_Desk_Open _ _ (hX _ _ rfl) ?_
  refine Tells.prot fun Q' hQ => ?_
  have l2 := p.l2
  have u4 := Try.underlying4
  have nn : ∀ y z, aBin Try.prog .eql 79 y z .nilp .nilp = some (.bool true) := fun y z => by kernel_rfl
  unfold S_desk_Desk_Open
  try simp
  refine Tells.bind (Tells.loop (fun m t g => ∃ (i : Nat) (ss : List Seat), t 0 = .ptr b 0 ∧ t 1 = v ∧ t 6 = I i ∧ i + m = 7 ∧ Ext [b] h g ∧ DeskP gv h0 g b br ss (openL now i xs))
    (Q := fun q g => q.1 = .exit 0 ∧ Ext [b] h g ∧ ∃ ss, DeskP gv h0 g b br ss (openL now 7 xs)) ?_ 7 _ _ ⟨0, ss, by simp, by simp, by simp, by omega, .refl, by rw [openL_zero]; exact p⟩) ?_
  · rintro m t g ⟨i, ss, t0, t1, t6, hi, xg, pg⟩
    refine Tells.prot fun Q2 hQ2 => ?_
    have w : IntKind.i64.wrap ((i : Int) + 1) = i + 1 := wrap_id (by omega) (by omega)
    unfold L_desk_Desk_Open_0
    by_cases hc : i < 7
    · obtain ⟨x, hx⟩ : ∃ x, xs[i]? = some x := ⟨_, List.getElem?_eq_getElem (by omega)⟩
      have hxo : (openL now i xs)[i]? = some x := by rw [openL_at, hx]; simp
      obtain ⟨s, hs⟩ : ∃ s, ss[i]? = some s := ⟨_, List.getElem?_eq_getElem (by rw [pg.l1]; exact hc)⟩
      have r := pg.r i s x hs hxo
      have hl := pg.l1
      obtain ⟨xh, xsub, xl, xb, xgo, xn, xlog, xr⟩ := x
      obtain ⟨sh, svs, sgi, sb, sgo, sn, svl, sr⟩ := s
      obtain ⟨e1, e2, e3, e4, e5, e6, rvs, rvl⟩ := r
      simp only at e1 e2 e3 e4 e5 e6 rvs rvl
      subst e1 e2 e3 e4 e5 e6
      have pn := fun y z => ptr_nil (t := 79) Try.underlying79 y z b (1 + i * 8)
      simp [t6, show (i : Int) < 7 by omega, J_desk_Desk_Open_1, t0]
      refine Tells.bind (p_seat hX pg hxo fun q => by subst q; exact hz _ hx) ?_
      rintro _ g ⟨rfl, rfl⟩
      -- to the next one
      have nxt : ∀ (t2 : T) (g2 : Heap) (s' : Seat), t2 0 = .ptr b 0 → t2 1 = v → t2 6 = I i → Ext [b] h g2 → Ext [b] g g2 → Ob g2 b (deskC br (ss.set i s')) → SeatR h0 g2 s' (openX i now ⟨sh, xsub, sgi, sb, sgo, sn, xlog, xr⟩) → s'.vlog = svl → Q2 (.normal, upd t2 6 (I ((i : Int) + 1))) g2 := by
        intro t2 g2 s' a0 a1 a6 X2 x2 o2 r2 hv
        refine hQ2 _ _ (.inl ⟨rfl, m - 1, by omega, i + 1, ss.set i s', by simp [a0], by simp [a1], by simp, by omega, X2, ?_⟩)
        rw [← openL_set hx]
        exact pg.set hs hxo x2 (fun y hy => .inl (by simp at hy; subst hy; exact pg.o.2.1)) o2 r2 fun y hy => .inl (by rw [hv] at hy; exact hy)
      cases sh with
      | false =>
        simp [nn, J_desk_Desk_Open_2, t6, w]
        refine Tells.ok (hQ2 _ _ (.inl ⟨rfl, m - 1, by omega, i + 1, ss, by simp [t0], by simp [t1], by simp, by omega, xg, ?_⟩))
        rw [← openL_set hx, show openX i now (⟨false, xsub, sgi, sb, sgo, sn, xlog, xr⟩ : Cl) = ⟨false, xsub, sgi, sb, sgo, sn, xlog, xr⟩ from by simp [openX], set_same hxo]
        exact pg
      | true =>
        simp [pn, J_desk_Desk_Open_3, t1]
        refine Tells.bind (subs_Of hX (ov.ext xg) sz (i : Int)) ?_
        rintro v2 g2 ⟨rz2, x2⟩
        have o2 : Sl sxR g2 v2 (ofL now i) := rz2.sl
        have ob2 := pg.o.e x2
        have hlen : ∀ ss' : List Seat, ss'.length = 7 → ∀ k, k < 8 → 1 + i * 8 + k < (deskC br ss').length := fun ss' h k hk => by rw [deskC_len, h]; omega
        try simp
        refine Tells.st1 ob2 o2.cells o2.one (hlen _ hl 1 (by decide)) fun g3 ob3 x3 => ?_
        rw [deskC_set (br := br) (s' := ⟨true, v2, sgi, sb, sgo, sn, svl, xr⟩) hs (k := 1) (by decide) rfl] at ob3
        have hc3 : (ss.set i ⟨true, v2, sgi, sb, sgo, sn, svl, xr⟩)[i]? = some ⟨true, v2, sgi, sb, sgo, sn, svl, xr⟩ := by rw [List.getElem?_set, if_pos rfl, if_pos (by omega)]
        have bt : ∀ k, k < 8 → (deskC br (ss.set i ⟨true, v2, sgi, sb, sgo, sn, svl, xr⟩))[1 + i * 8 + k]? = (seatC ⟨true, v2, sgi, sb, sgo, sn, svl, xr⟩)[k]? := fun k hk => deskC_at hc3 hk
        have b1 := bt 1 (by decide)
        have b3 := bt 3 (by decide)
        have b4 := bt 4 (by decide)
        have b5 := bt 5 (by decide)
        have o3 := o2.ext x3
        have X13 : Ext [b] g g3 := (x2.of).trans x3
        have X3 : Ext [b] h g3 := xg.trans X13
        have fl : (ofL now i).length ≤ 1000 := Nat.le_trans (List.length_filter_le _ _) sz.1
        have vlx : ∀ {g' : Heap}, Ext [b] g g' → Gl snR h0 g' svl xlog := fun e => rvl.ext e fun y hy q => by simp at q; subst q; exact rvl.1.ob pg.o hy
        cases sb with
        | false =>
          simp [ob3.1, b1, b3, b4, b5, seatC, J_desk_Desk_Open_2, t6, w]
          refine Tells.ok (nxt _ g3 ⟨true, v2, sgi, false, sgo, sn, svl, xr⟩ (by simp [t0]) (by simp [t1]) (by simp [t6]) X3 X13 ob3 ?_ rfl)
          simp only [openX, if_true, Bool.false_and]
          exact ⟨rfl, rfl, rfl, rfl, rfl, rfl, o3, vlx X13⟩
        | true =>
          simp [ob3.1, b1, b3, b4, b5, seatC]
          refine Tells.cbE (subs_Has hX o3 fl (i : Int) sn) ?_
          rintro _ g4 ⟨rfl, x4⟩
          have ob4 := ob3.e x4
          have X14 : Ext [b] g g4 := X13.trans x4.of
          have X4 : Ext [b] h g4 := X3.trans x4.of
          simp only [openX, if_true, Bool.true_and] at nxt
          generalize (ofL now i).any (sameK i sn) = hs' at nxt ⊢
          cases sgo <;> cases hs'
          · simp [ob4.1, ob3.1, b4, seatC, u4, J_desk_Desk_Open_2, t6, w]
            exact Tells.ok (nxt _ g4 ⟨true, v2, sgi, true, false, sn, svl, xr⟩ (by simp [t0]) (by simp [t1]) (by simp [t6]) X4 X14 ob4 ⟨rfl, rfl, rfl, rfl, rfl, rfl, o3.ext x4, vlx X14⟩ rfl)
          · simp [ob4.1, ob3.1, b4, seatC, u4]
            refine Tells.st1 ob4 (by rfl) (by rfl) (hlen _ (by simp [hl]) 3 (by decide)) fun g5 ob5 x5 => ?_
            rw [deskC_set (br := br) (s' := ⟨true, v2, sgi, false, false, sn, svl, xr⟩) hc3 (k := 3) (by decide) rfl, List.set_set] at ob5
            simp [J_desk_Desk_Open_2, t6, w]
            exact Tells.ok (nxt _ g5 ⟨true, v2, sgi, false, false, sn, svl, xr⟩ (by simp [t0]) (by simp [t1]) (by simp [t6]) (X4.trans x5) (X14.trans x5) ob5 ⟨rfl, rfl, rfl, rfl, rfl, rfl, (o3.ext x4).ext x5, vlx (X14.trans x5)⟩ rfl)
          · simp [ob4.1, ob3.1, b4, seatC, u4]
            refine Tells.st1 ob4 (by rfl) (by rfl) (hlen _ (by simp [hl]) 3 (by decide)) fun g5 ob5 x5 => ?_
            rw [deskC_set (br := br) (s' := ⟨true, v2, sgi, false, true, sn, svl, xr⟩) hc3 (k := 3) (by decide) rfl, List.set_set] at ob5
            simp [J_desk_Desk_Open_2, t6, w]
            exact Tells.ok (nxt _ g5 ⟨true, v2, sgi, false, true, sn, svl, xr⟩ (by simp [t0]) (by simp [t1]) (by simp [t6]) (X4.trans x5) (X14.trans x5) ob5 ⟨rfl, rfl, rfl, rfl, rfl, rfl, (o3.ext x4).ext x5, vlx (X14.trans x5)⟩ rfl)
          · simp [ob4.1, ob3.1, b4, seatC, u4, J_desk_Desk_Open_2, t6, w]
            exact Tells.ok (nxt _ g4 ⟨true, v2, sgi, true, true, sn, svl, xr⟩ (by simp [t0]) (by simp [t1]) (by simp [t6]) X4 X14 ob4 ⟨rfl, rfl, rfl, rfl, rfl, rfl, o3.ext x4, vlx X14⟩ rfl)
    · have : i = 7 := by omega
      subst this
      simp [t6]
      exact Tells.ok (hQ2 _ _ (.inr ⟨by simp, rfl, xg, ss, pg⟩))
  · rintro ⟨ex, t⟩ g ⟨rfl, x, r⟩
    try simp
    exact Tells.ok (hQ _ _ ⟨r, x⟩)
end
end Go.Proofs.Ytbolfamaffbnnaa

/-! Law DeskTells: the document's desk; Here, Attach, Busy, Poll, Hear. -/
namespace Go.Proofs.Ytbolfamaffbnnaa
open Go.Ab

/-- A client of the document's, as its cells. -/
structure Rc where
  here : Bool
  last : Int
  gone : Bool
  cc : Int
  cb : Int
  cn : Int
  vf : AVal
  busy : Bool
  vsub : AVal
  vlog : AVal
  read : Int
def rcC (s : Rc) : List AVal := [.bool s.here, I s.last, .bool s.gone, I s.cc, I s.cb, I s.cn, s.vf, .bool s.busy, s.vsub, s.vlog, I s.read]
def rdC (br : Int) (ss : List Rc) : List AVal := I br :: (ss.map rcC).flatten
theorem rc_len : ∀ {ss : List Rc}, ∀ c, c ∈ ss.map rcC → c.length = 11 := fun c hc => by
  obtain ⟨s, _, rfl⟩ := List.mem_map.1 hc
  rfl
theorem rdC_at {br : Int} {ss : List Rc} {c k : Nat} {s : Rc} (hc : ss[c]? = some s) (hk : k < 11) : (rdC br ss)[1 + c * 11 + k]? = (rcC s)[k]? := by
  have h := flat_at (n := 11) (css := ss.map rcC) rc_len (i := c) (c := rcC s) (by simp [hc])
  have e : (rdC br ss)[1 + c * 11 + k]? = ((ss.map rcC).flatten)[c * 11 + k]? := by
    rw [show 1 + c * 11 + k = (c * 11 + k) + 1 by omega]
    rfl
  rw [e, ← h, List.getElem?_take, if_pos hk, List.getElem?_drop]
theorem rdC_len {br : Int} {ss : List Rc} : (rdC br ss).length = 1 + ss.length * 11 := by
  have := flat_len (n := 11) (css := ss.map rcC) rc_len
  simp only [rdC, List.length_cons, this, List.length_map]
  omega
theorem rdC_set {br : Int} {ss : List Rc} {c k : Nat} {s s' : Rc} {v : AVal} (hc : ss[c]? = some s) (hk : k < 11) (h : (rcC s).set k v = rcC s') : (rdC br ss).set (1 + c * 11 + k) v = rdC br (ss.set c s') := by
  have e := flat_set (n := 11) (css := ss.map rcC) rc_len (i := c) (k := k) (c := rcC s) (x := v) (by simp [hc]) hk
  rw [h] at e
  rw [show 1 + c * 11 + k = (c * 11 + k) + 1 by omega]
  simp only [rdC, List.set_cons_succ]
  rw [← e, List.map_set]
theorem splice5 {cs : List AVal} {off : Nat} {a b c d e : AVal} (h : off + 5 ≤ cs.length) : splice cs off [a, b, c, d, e] = ((((cs.set off a).set (off + 1) b).set (off + 2) c).set (off + 3) d).set (off + 4) e := by
  obtain ⟨l1, l2, x0, x1, x2, x3, x4, hl, rfl⟩ : ∃ l1 l2 x0 x1 x2 x3 x4, l1.length = off ∧ cs = l1 ++ (x0 :: x1 :: x2 :: x3 :: x4 :: l2) := by
    have hd : 5 ≤ (cs.drop off).length := by simp; omega
    match hm : cs.drop off, hd with
    | x0 :: x1 :: x2 :: x3 :: x4 :: l2, _ => exact ⟨cs.take off, l2, x0, x1, x2, x3, x4, by simp; omega, by rw [← hm, List.take_append_drop]⟩
  subst hl
  simp [splice, List.set_append, List.take_append, List.drop_append]
structure RcR (h : Heap) (s : Rc) (x : Cl) : Prop where
  here : s.here = x.here
  last : s.last = x.last
  busy : s.busy = x.busy
  gone : s.gone = x.gone
  num : s.cn = x.num
  read : s.read = x.read
  vs : Sl sxR h s.vsub x.subs
  vl : Sl snR h s.vlog x.log
theorem RcR.ext {h h' : Heap} {s : Rc} {x : Cl} {S : List Nat} (r : RcR h s x) (e : Ext S h h') : RcR h' s x := ⟨r.here, r.last, r.busy, r.gone, r.num, r.read, r.vs.ext e, r.vl.ext e⟩
/-- The document's desk. -/
structure DeskD (h : Heap) (b : Nat) (br : Int) (ss : List Rc) (xs : List Cl) : Prop where
  o : Ob h b (rdC br ss)
  l1 : ss.length = 7
  l2 : xs.length = 7
  r : ∀ (c : Nat) (s : Rc) (x : Cl), ss[c]? = some s → xs[c]? = some x → RcR h s x
theorem DeskD.ext {h h' : Heap} {b : Nat} {br : Int} {ss : List Rc} {xs : List Cl} {S : List Nat} (p : DeskD h b br ss xs) (e : Ext S h h') (hb : b ∉ S) : DeskD h' b br ss xs := ⟨p.o.ext e hb, p.l1, p.l2, fun c s x h1 h2 => (p.r c s x h1 h2).ext e⟩
theorem DeskD.e {h h' : Heap} {b : Nat} {br : Int} {ss : List Rc} {xs : List Cl} (p : DeskD h b br ss xs) (e : Ext [] h h') : DeskD h' b br ss xs := p.ext e (by simp)
theorem DeskD.set {h h' : Heap} {b : Nat} {br : Int} {ss : List Rc} {xs : List Cl} {S : List Nat} {c : Nat} {s s' : Rc} {x x' : Cl} (p : DeskD h b br ss xs) (hs : ss[c]? = some s) (hx : xs[c]? = some x) (e : Ext S h h') (o' : Ob h' b (rdC br (ss.set c s'))) (r' : RcR h' s' x') : DeskD h' b br (ss.set c s') (xs.set c x') := by
  have hc : c < 7 := by have := (List.getElem?_eq_some_iff.1 hs).1; have := p.l1; omega
  refine ⟨o', by simp [p.l1], by simp [p.l2], fun c1 s1 x1 h1 h2 => ?_⟩
  rw [List.getElem?_set] at h1 h2
  by_cases q : c = c1
  · subst q
    rw [if_pos rfl, if_pos (by rw [p.l1]; exact hc)] at h1
    rw [if_pos rfl, if_pos (by rw [p.l2]; exact hc)] at h2
    cases h1; cases h2
    exact r'
  · rw [if_neg q] at h1 h2
    exact (p.r c1 s1 x1 h1 h2).ext e

section
variable {X : XTab} {h : Heap} {b : Nat} {br : Int} {ss : List Rc} {xs : List Cl} {c : Nat} {x : Cl}

theorem d_Here (hX : OnlyKnown X) (p : DeskD h b br ss xs) (hx : xs[c]? = some x) (hz : c = 0 → x.here = false) :
    Tells (fun q => acallX Try.prog X q F_precentorref14_Desk_Here [.ptr b 0, I c] h) fun a h' => a = .bool x.here ∧ h' = h := by
  have hc : c < 7 := by have := (List.getElem?_eq_some_iff.1 hx).1; have := p.l2; omega
  obtain ⟨s, hs⟩ : ∃ s, ss[c]? = some s := ⟨_, List.getElem?_eq_getElem (by rw [p.l1]; exact hc)⟩
  have r := p.r c s x hs hx
  refine R_precentorref14_Desk_Here _ _ (hX _ _ rfl) ?_
  unfold S_precentorref14_Desk_Here
  by_cases h0 : c = 0
  · subst h0
    simp
    exact Tells.ok ⟨by rw [hz rfl], rfl⟩
  · have hp := ixp_at (len := 7) (z := 11) (b := b) (o := 1) hc
    have at0 := rdC_at (br := br) hs (k := 0) (by decide)
    rw [Nat.add_zero] at at0
    simp [show (1 : Int) ≤ c by omega, show (c : Int) ≤ 6 by omega, hp, p.o.1, at0, rcC, show 1 ≤ c by omega, show c ≤ 6 by omega]
    exact Tells.ok ⟨by rw [r.here], rfl⟩

theorem d_Attach (hX : OnlyKnown X) (p : DeskD h b br ss xs) (hx : xs[c]? = some x) :
    Tells (fun q => acallX Try.prog X q F_precentorref14_Desk_Attach [.ptr b 0, I c] h) fun a h' => a = I (attE c x) ∧ (∃ ss', DeskD h' b br ss' (xs.set c (attX c x))) ∧ Ext [b] h h' := by
  have hc : c < 7 := by have := (List.getElem?_eq_some_iff.1 hx).1; have := p.l2; omega
  obtain ⟨s, hs⟩ : ∃ s, ss[c]? = some s := ⟨_, List.getElem?_eq_getElem (by rw [p.l1]; exact hc)⟩
  have r := p.r c s x hs hx
  refine R_precentorref14_Desk_Attach _ _ (hX _ _ rfl) ?_
  refine Tells.prot fun Q' hQ => ?_
  unfold S_precentorref14_Desk_Attach
  by_cases h0 : c = 0
  · subst h0
    simp
    exact Tells.ok (hQ _ _ ⟨rfl, ⟨ss, by simp [attX, attE]; rw [set_same hx]; exact p⟩, .refl⟩)
  · have hp := ixp_at (len := 7) (z := 11) (b := b) (o := 1) hc
    have at0 := rdC_at (br := br) hs (k := 0) (by decide)
    rw [Nat.add_zero] at at0
    cases hh : s.here with
    | true =>
      have hh' : x.here = true := by rw [← r.here]; exact hh
      simp [show ¬ (c : Int) < 1 by omega, show ¬ (6 : Int) < c by omega, J_precentorref14_Desk_Attach_0, hp, p.o.1, at0, rcC, hh]
      exact Tells.ok (hQ _ _ ⟨by simp [attE, h0, hh'], ⟨ss, by simp [attX, attE, h0, hh']; rw [set_same hx]; exact p⟩, .refl⟩)
    | false =>
      have hh' : x.here = false := by rw [← r.here]; exact hh
      have set0 := rdC_set (br := br) (s' := { s with here := true }) (v := .bool true) hs (k := 0) (by decide) rfl
      rw [Nat.add_zero] at set0
      simp [show ¬ (c : Int) < 1 by omega, show ¬ (6 : Int) < c by omega, J_precentorref14_Desk_Attach_0, hp, p.o.1, at0, rcC, hh, J_precentorref14_Desk_Attach_1]
      refine Tells.st1 p.o (by rfl) (by rfl) (by rw [rdC_len, p.l1]; omega) fun h2 o2 x2 => ?_
      rw [set0] at o2
      try simp
      refine Tells.ok (hQ _ _ ⟨by simp [attE, h0, hh'], ⟨ss.set c { s with here := true }, ?_⟩, x2⟩)
      have : attX c x = { x with here := true } := by simp [attX, attE, h0, hh']
      rw [this]
      exact p.set hs hx x2 o2 ⟨rfl, r.last, r.busy, r.gone, r.num, r.read, r.vs.ext x2, r.vl.ext x2⟩

theorem d_Busy (hX : OnlyKnown X) (p : DeskD h b br ss xs) (hz : ∀ y, xs[0]? = some y → y.here = false) :
    Tells (fun q => acallX Try.prog X q F_precentorref14_Desk_Busy [.ptr b 0] h) fun a h' => a = I (busyC xs) ∧ h' = h := by
  refine R_precentorref14_Desk_Busy _ (hX _ _ rfl) ?_
  refine Tells.prot fun Q' hQ => ?_
  unfold S_precentorref14_Desk_Busy
  have l1 := p.l1
  have l2 := p.l2
  obtain ⟨y0, hy0⟩ : ∃ y, xs[0]? = some y := ⟨_, List.getElem?_eq_getElem (by omega)⟩
  have z0 := hz y0 hy0
  have t1 : busyC (xs.take 1) = 0 := by
    rw [show (1 : Nat) = 0 + 1 from rfl, List.take_add_one, hy0]
    simp [busyC, z0]
  try simp
  refine Tells.bind (Tells.loop (fun m t g => ∃ i : Nat, t 0 = .ptr b 0 ∧ t 3 = I (busyC (xs.take i)) ∧ t 4 = I i ∧ i + m = 7 ∧ 1 ≤ i ∧ g = h)
    (Q := fun q g => q.1 = .exit 0 ∧ q.2 3 = I (busyC xs) ∧ g = h) ?_ 6 _ _ ⟨1, by simp, by simp [t1], by simp, by omega, by omega, rfl⟩) ?_
  · rintro m t g ⟨i, t0, t3, t4, hi, i1, rfl⟩
    refine Tells.prot fun Q2 hQ2 => ?_
    unfold L_precentorref14_Desk_Busy_1
    by_cases hc : i ≤ 6
    · have hc7 : i < 7 := by omega
      obtain ⟨s, hs⟩ : ∃ s, ss[i]? = some s := ⟨_, List.getElem?_eq_getElem (by omega)⟩
      obtain ⟨x, hx⟩ : ∃ x, xs[i]? = some x := ⟨_, List.getElem?_eq_getElem (by omega)⟩
      have r := p.r i s x hs hx
      have w : IntKind.i64.wrap ((i : Int) + 1) = i + 1 := wrap_id (by omega) (by omega)
      have ht : busyC (xs.take (i + 1)) = busyC (xs.take i) + if (x.here && x.busy) = true then 1 else 0 := by
        unfold busyC
        rw [List.take_add_one, hx]
        simp [List.countP_append, List.countP_cons]
      have hle : busyC (xs.take i) ≤ 7 := Nat.le_trans List.countP_le_length (by simp; omega)
      have wb : IntKind.i64.wrap ((busyC (xs.take i) : Int) + 1) = busyC (xs.take i) + 1 := wrap_id (by omega) (by omega)
      have at0 := rdC_at (br := br) hs (k := 0) (by decide)
      rw [Nat.add_zero] at at0
      have at7 := rdC_at (br := br) hs (k := 7) (by decide)
      have hp := ixp_at (len := 7) (z := 11) (b := b) (o := 1) hc7
      have e1 := r.here
      have e2 := r.busy
      cases hh : x.here with
      | false =>
        rw [hh] at e1
        simp [t4, show (i : Int) ≤ 6 by omega, hc, J_precentorref14_Desk_Busy_2, t0, hp, p.o.1, at0, rcC, e1, J_precentorref14_Desk_Busy_3, w]
        exact Tells.ok (hQ2 _ _ (.inl ⟨rfl, m - 1, by omega, i + 1, by simp [t0], by simp [t3, ht, hh], by simp, by omega, by omega, rfl⟩))
      | true =>
        rw [hh] at e1
        cases hb : x.busy with
        | false =>
          rw [hb] at e2
          simp [t4, show (i : Int) ≤ 6 by omega, hc, J_precentorref14_Desk_Busy_2, t0, hp, p.o.1, at0, at7, rcC, e1, e2, J_precentorref14_Desk_Busy_3, w]
          exact Tells.ok (hQ2 _ _ (.inl ⟨rfl, m - 1, by omega, i + 1, by simp [t0], by simp [t3, ht, hh, hb], by simp, by omega, by omega, rfl⟩))
        | true =>
          rw [hb] at e2
          simp [t4, show (i : Int) ≤ 6 by omega, hc, J_precentorref14_Desk_Busy_2, t0, hp, p.o.1, at0, at7, rcC, e1, e2, t3, wb, J_precentorref14_Desk_Busy_3, w]
          exact Tells.ok (hQ2 _ _ (.inl ⟨rfl, m - 1, by omega, i + 1, by simp [t0], by simp [ht, hh, hb], by simp, by omega, by omega, rfl⟩))
    · have : i = 7 := by omega
      subst this
      simp [t4]
      exact Tells.ok (hQ2 _ _ (.inr ⟨by simp, rfl, by simp [t3, List.take_of_length_le (show xs.length ≤ 7 by omega)], rfl⟩))
  · rintro ⟨ex, t⟩ g ⟨rfl, t3, rfl⟩
    simp only at t3
    simp [J_precentorref14_Desk_Busy_0, t3]
    exact Tells.ok (hQ _ _ ⟨rfl, rfl⟩)
end
end Go.Proofs.Ytbolfamaffbnnaa

/-! Law DeskTells: the document's Subscribe, Unsubscribe. -/
namespace Go.Proofs.Ytbolfamaffbnnaa
open Go.Ab

theorem rdC_five {br : Int} {ss : List Rc} {c : Nat} {s : Rc} (hc : ss[c]? = some s) : ((rdC br ss).drop (1 + c * 11 + 2)).take 5 = [.bool s.gone, I s.cc, I s.cb, I s.cn, s.vf] := by
  have h := flat_at (n := 11) (css := ss.map rcC) rc_len (i := c) (c := rcC s) (by simp [hc])
  have e : (rdC br ss).drop (1 + c * 11 + 2) = (((ss.map rcC).flatten).drop (c * 11)).drop 2 := by
    rw [List.drop_drop, show 1 + c * 11 + 2 = (c * 11 + 2) + 1 by omega]
    rfl
  have e2 : ((((ss.map rcC).flatten).drop (c * 11)).drop 2).take 5 = (((((ss.map rcC).flatten).drop (c * 11)).take 11).drop 2).take 5 := by
    rw [List.drop_take, List.take_take]
    rfl
  rw [e, e2, h]
  rfl
theorem rdC_put5 {br : Int} {ss : List Rc} {c : Nat} {s : Rc} (hc : ss[c]? = some s) (hl : ss.length = 7) (g : Bool) (cc cb cn : Int) (vf : AVal) : splice (rdC br ss) (1 + c * 11 + 2) [.bool g, I cc, I cb, I cn, vf] = rdC br (ss.set c { s with gone := g, cc := cc, cb := cb, cn := cn, vf := vf }) := by
  have hc7 : c < 7 := by have := (List.getElem?_eq_some_iff.1 hc).1; omega
  have at_ : ∀ s' : Rc, (ss.set c s')[c]? = some s' := fun s' => by rw [List.getElem?_set, if_pos rfl, if_pos (by omega)]
  rw [splice5 (by rw [rdC_len, hl]; omega)]
  rw [rdC_set (s' := { s with gone := g }) hc (k := 2) (by decide) rfl]
  rw [show 1 + c * 11 + 2 + 1 = 1 + c * 11 + 3 by omega, rdC_set (s' := { s with gone := g, cc := cc }) (at_ { s with gone := g }) (k := 3) (by decide) rfl, List.set_set]
  rw [show 1 + c * 11 + 2 + 2 = 1 + c * 11 + 4 by omega, rdC_set (s' := { s with gone := g, cc := cc, cb := cb }) (at_ { s with gone := g, cc := cc }) (k := 4) (by decide) rfl, List.set_set]
  rw [show 1 + c * 11 + 2 + 3 = 1 + c * 11 + 5 by omega, rdC_set (s' := { s with gone := g, cc := cc, cb := cb, cn := cn }) (at_ { s with gone := g, cc := cc, cb := cb }) (k := 5) (by decide) rfl, List.set_set]
  rw [show 1 + c * 11 + 2 + 4 = 1 + c * 11 + 6 by omega, rdC_set (s' := { s with gone := g, cc := cc, cb := cb, cn := cn, vf := vf }) (at_ { s with gone := g, cc := cc, cb := cb, cn := cn }) (k := 6) (by decide) rfl, List.set_set]

section
variable {X : XTab} {h : Heap} {b : Nat} {br : Int} {ss : List Rc} {xs : List Cl} {c : Nat} {x : Cl}

theorem d_Sub (hX : OnlyKnown X) (p : DeskD h b br ss xs) (hx : xs[c]? = some x) (hz : c = 0 → x.here = false) (hg : 0 ≤ x.last ∧ x.last < 2 ^ 61) {fv : AVal} {fl : List Prd} (of_ : SlN prR h fv fl) (lf : fl.length ≤ 1000) (sz : ∀ q, q ∈ fl → SzN q) :
    Tells (fun q => acallX Try.prog X q F_precentorref14_Desk_Subscribe [.ptr b 0, I c, fv] h) fun a h' => (∃ v, a = .tup [.agg (cgC (subG br c x fl (subE x (rightFl fl))) v), I (subE x (rightFl fl))] ∧ SlN prR h' v (subG br c x fl (subE x (rightFl fl))).s.fl) ∧ (∃ ss', DeskD h' b br ss' (xs.set c (subX x (subE x (rightFl fl))))) ∧ Ext [b] h h' := by
  have hc : c < 7 := by have := (List.getElem?_eq_some_iff.1 hx).1; have := p.l2; omega
  obtain ⟨s, hs⟩ : ∃ s, ss[c]? = some s := ⟨_, List.getElem?_eq_getElem (by rw [p.l1]; exact hc)⟩
  have r := p.r c s x hs hx
  have hl := p.l1
  refine R_precentorref14_Desk_Subscribe _ _ _ (hX _ _ rfl) ?_
  refine Tells.prot fun Q' hQ => ?_
  have at1 := rdC_at (br := br) hs (k := 1) (by decide)
  have at7 := rdC_at (br := br) hs (k := 7) (by decide)
  have at8 := rdC_at (br := br) hs (k := 8) (by decide)
  have hp := ixp_at (len := 7) (z := 11) (b := b) (o := 1) hc
  unfold S_precentorref14_Desk_Subscribe
  try simp
  refine Tells.new fun g1 b2 o2 x1 l1 => ?_
  have hne : b ≠ b2 := by have := p.o.lt; omega
  have p1 := p.e x1
  have no : ∀ (e : Int) (g : Heap), subE x (rightFl fl) = e → e ≠ 0 → Ext [] h g → ∀ (h' : Heap), Ext [b2] g h' → b2 < g.next → DeskD g b br ss xs → Q' (.tup [.agg (.bool false :: sxC ⟨0, 0, 0, []⟩ .nils), I e]) h' := by
    intro e g he h0' xg h' xh hb2 pg
    have e1 : subG br c x fl e = cg0 := by simp [subG, h0']
    have e2 : subX x e = x := by simp [subX, h0']
    refine hQ _ _ ⟨⟨.nils, by rw [he, e1]; rfl, by rw [he, e1]; exact SlN.nil⟩, ⟨ss, ?_⟩, (xg.of).then xh fun z hz => .inr (by simp at hz; omega)⟩
    rw [he, e2, set_same hx]
    exact pg.ext xh (by simpa using hne)
  try simp
  refine Tells.bind (d_Here hX p1 hx hz) ?_
  rintro _ g1 ⟨rfl, rfl⟩
  cases hh : x.here with
  | false =>
    have he : subE x (rightFl fl) = 4 := by simp [subE, hh]
    simp [bldR, fillR]
    refine Tells.stN o2 (ds := .bool false :: sxC ⟨0, 0, 0, []⟩ .nils) (by rfl) (by rfl) (by rfl) (by rfl) fun g2 o3 x2 => ?_
    simp [C_precentorref14_Desk_Subscribe_0, o3.1, sxC]
    exact Tells.ok (no 4 g1 he (by decide) x1 g2 x2 o2.lt p1)
  | true =>
    simp [J_precentorref14_Desk_Subscribe_0, hp]
    refine Tells.bind (ref_RightFilter hX (of_.ext x1) lf sz) ?_
    rintro _ g2 ⟨rfl, x2⟩
    have X2 := x1.trans x2
    have p2 := p1.e x2
    have o22 := o2.e x2
    have o12 := p2.o
    cases hr : rightFl fl with
    | false =>
      have he : subE x (rightFl fl) = 3 := by simp [subE, hh, hr]
      simp [bldR, fillR]
      refine Tells.stN o22 (ds := .bool false :: sxC ⟨0, 0, 0, []⟩ .nils) (by rfl) (by rfl) (by rfl) (by rfl) fun g3 o3 x3 => ?_
      simp [C_precentorref14_Desk_Subscribe_0, o3.1, sxC]
      exact Tells.ok (no 3 g2 he (by decide) X2 g3 x3 o22.lt p2)
    | true =>
      rw [hr] at no hQ
      have e3 := r.busy
      cases hb : x.busy with
      | true =>
        rw [hb] at e3
        have he : subE x true = 7 := by simp [subE, hh, hb]
        simp [o12.1, at7, rcC, e3, bldR, fillR]
        refine Tells.stN o22 (ds := .bool false :: sxC ⟨0, 0, 0, []⟩ .nils) (by rfl) (by rfl) (by rfl) (by rfl) fun g3 o3 x3 => ?_
        simp [C_precentorref14_Desk_Subscribe_0, o3.1, sxC]
        exact Tells.ok (no 7 g2 he (by decide) X2 g3 x3 o22.lt p2)
      | false =>
        rw [hb] at e3
        have lo := r.vs.ext X2
        by_cases h3 : 3 ≤ x.subs.length
        · have he : subE x true = 6 := by simp [subE, hh, hb, h3]
          simp [o12.1, at7, at8, rcC, e3, lo.len, show (3 : Int) ≤ x.subs.length by omega, h3, bldR, fillR]
          refine Tells.stN o22 (ds := .bool false :: sxC ⟨0, 0, 0, []⟩ .nils) (by rfl) (by rfl) (by rfl) (by rfl) fun g3 o3 x3 => ?_
          simp [C_precentorref14_Desk_Subscribe_0, o3.1, sxC]
          exact Tells.ok (no 6 g2 he (by decide) X2 g3 x3 o22.lt p2)
        · have he : subE x true = 0 := by simp [subE, hh, hb, h3]
          have hgv := r.last
          have w : IntKind.i64.wrap (s.last + 1) = s.last + 1 := wrap_id (by omega) (by omega)
          have hlen : ∀ ss' : List Rc, ss'.length = 7 → ∀ k, k < 11 → 1 + c * 11 + k < (rdC br ss').length := fun ss' h k hk => by rw [rdC_len, h]; omega
          simp [o12.1, at1, at7, at8, rcC, e3, lo.len, show ¬ (3 : Int) ≤ x.subs.length by omega, h3, show ¬ (4611686018427387904 : Int) ≤ s.last by omega, J_precentorref14_Desk_Subscribe_1, w]
          refine Tells.st1 o12 (by rfl) (by rfl) (hlen _ hl 1 (by decide)) fun g3 oA xA => ?_
          rw [rdC_set (br := br) (s' := { s with last := s.last + 1 }) hs (k := 1) (by decide) rfl] at oA
          have at_ : ∀ s' : Rc, (ss.set c s')[c]? = some s' := fun s' => by rw [List.getElem?_set, if_pos rfl, if_pos (by omega)]
          try simp
          refine Tells.st1 oA (by rfl) (by rfl) (hlen _ (by simp [hl]) 7 (by decide)) fun g4 oB xB => ?_
          rw [rdC_set (br := br) (s' := { s with last := s.last + 1, busy := true }) (at_ { s with last := s.last + 1 }) (k := 7) (by decide) rfl, List.set_set] at oB
          have atB := rdC_at (br := br) (at_ { s with last := s.last + 1, busy := true }) (k := 1) (by decide)
          have at0 : (rdC br (ss.set c { s with last := s.last + 1, busy := true }))[0]? = some (I br) := rfl
          have X4 : Ext [b] g2 g4 := xA.trans xB
          have of4 := (of_.ext X2).ext X4
          simp [oB.1, atB, at0, rcC, bldR, fillR, splice, of4.known, of4.cells]
          refine Tells.stE oB (cs := rdC br (ss.set c { s with last := s.last + 1, busy := true })) (off := 1 + c * 11 + 2) (v := .agg [.bool false, I c, I br, I (s.last + 1), fv]) (by rfl) (by simp [AVal.cells, of4.one]) (by rw [rdC_len]; simp [hl]; omega) fun g5 oC xC => ?_
          have hv : (AVal.agg [.bool false, I c, I br, I (s.last + 1), fv]).cells = [.bool false, I c, I br, I (s.last + 1), fv] := rfl
          rw [hv, rdC_put5 (at_ { s with last := s.last + 1, busy := true }) (by simp [hl]), List.set_set] at oC
          have le5 : 1 + c * 11 + 2 + 5 ≤ (rdC br (ss.set c { s with last := s.last + 1, busy := true, gone := false, cc := (c : Int), cb := br, cn := s.last + 1, vf := fv })).length := by rw [rdC_len]; simp [hl]; omega
          have f5 := rdC_five (br := br) (at_ { s with last := s.last + 1, busy := true, gone := false, cc := (c : Int), cb := br, cn := s.last + 1, vf := fv })
          have X5 : Ext [b] g2 g5 := X4.trans xC
          have of5 := of4.ext xC
          have o25 := o22.ext X5 (by simpa using hne.symm)
          simp only at le5 f5
          simp [oC.1, le5, f5]
          refine Tells.stN o25 (ds := .bool false :: sxC ⟨c, br, s.last + 1, fl⟩ fv) (by rfl) (by rfl) (by simp [sxC, of5.one]) (by rfl) fun g6 o6 x6 => ?_
          simp [C_precentorref14_Desk_Subscribe_0, o6.1, sxC]
          have X7 : Ext [b] h g5 := X2.of.trans X5
          have e1 : subG br c x fl 0 = ⟨false, ⟨c, br, x.last + 1, fl⟩⟩ := by simp [subG]
          have e2 : subX x 0 = { x with last := x.last + 1, busy := true, gone := false, num := x.last + 1 } := by simp [subX]
          rw [he] at hQ
          refine Tells.ok (hQ _ _ ⟨⟨fv, by rw [e1, hgv]; rfl, by rw [e1]; exact of5.ext x6⟩, ⟨ss.set c { s with last := s.last + 1, busy := true, gone := false, cc := (c : Int), cb := br, cn := s.last + 1, vf := fv }, ?_⟩, X7.then x6 fun z hz => .inr (by simp at hz; omega)⟩)
          rw [e2]
          have p7 := p.set hs hx X7 (s' := { s with last := s.last + 1, busy := true, gone := false, cc := (c : Int), cb := br, cn := s.last + 1, vf := fv }) (x' := { x with last := x.last + 1, busy := true, gone := false, num := x.last + 1 }) oC ⟨r.here, by simp [hgv], rfl, rfl, by simp [hgv], r.read, r.vs.ext X7, r.vl.ext X7⟩
          exact p7.ext x6 (by simpa using hne)

theorem d_Uns (hX : OnlyKnown X) (p : DeskD h b br ss xs) (hx : xs[c]? = some x) (hz : c = 0 → x.here = false) (hls : x.subs.length ≤ 1000) (n : Int) :
    Tells (fun q => acallX Try.prog X q F_precentorref14_Desk_Unsubscribe [.ptr b 0, I c, I n] h) fun a h' => a = .tup [.agg (cgC (unsG br c n (unsE c x n)) .nils), I (unsE c x n)] ∧ (∃ ss', DeskD h' b br ss' (xs.set c (unsX x n (unsE c x n)))) ∧ Ext [b] h h' := by
  have hc : c < 7 := by have := (List.getElem?_eq_some_iff.1 hx).1; have := p.l2; omega
  obtain ⟨s, hs⟩ : ∃ s, ss[c]? = some s := ⟨_, List.getElem?_eq_getElem (by rw [p.l1]; exact hc)⟩
  have r := p.r c s x hs hx
  have hl := p.l1
  refine R_precentorref14_Desk_Unsubscribe _ _ _ (hX _ _ rfl) ?_
  refine Tells.prot fun Q' hQ => ?_
  have at7 := rdC_at (br := br) hs (k := 7) (by decide)
  have at8 := rdC_at (br := br) hs (k := 8) (by decide)
  have hp := ixp_at (len := 7) (z := 11) (b := b) (o := 1) hc
  have hlen : ∀ ss' : List Rc, ss'.length = 7 → ∀ k, k < 11 → 1 + c * 11 + k < (rdC br ss').length := fun ss' h k hk => by rw [rdC_len, h]; omega
  unfold S_precentorref14_Desk_Unsubscribe
  try simp
  refine Tells.new fun g1 b2 o2 x1 l1 => ?_
  have hne : b ≠ b2 := by have := p.o.lt; omega
  have p1 := p.e x1
  have no : ∀ (e : Int) (g : Heap), unsE c x n = e → e ≠ 0 → Ext [] h g → ∀ (h' : Heap), Ext [b2] g h' → b2 < g.next → DeskD g b br ss xs → Q' (.tup [.agg (cgC cg0 .nils), I e]) h' := by
    intro e g he h0' xg h' xh hb2 pg
    have e1 : unsG br c n e = cg0 := by simp [unsG, h0']
    have e2 : unsX x n e = x := by simp [unsX, h0']
    refine hQ _ _ ⟨by rw [he, e1], ⟨ss, ?_⟩, (xg.of).then xh fun z hz => .inr (by simp at hz; omega)⟩
    rw [he, e2, set_same hx]
    exact pg.ext xh (by simpa using hne)
  try simp
  refine Tells.bind (d_Here hX p1 hx hz) ?_
  rintro _ g1 ⟨rfl, rfl⟩
  cases hh : x.here with
  | false =>
    have he : unsE c x n = 4 := by simp [unsE, hh]
    simp [bldR, fillR]
    refine Tells.stN o2 (ds := cgC cg0 .nils) (by rfl) (by rfl) (by rfl) (by rfl) fun g2 o3 x2 => ?_
    simp [C_precentorref14_Desk_Unsubscribe_0, o3.1, cgC, cg0, sxC]
    exact Tells.ok (no 4 g1 he (by decide) x1 g2 x2 o2.lt p1)
  | true =>
    have e3 := r.busy
    cases hb : x.busy with
    | true =>
      rw [hb] at e3
      have he : unsE c x n = 7 := by simp [unsE, hh, hb]
      simp [J_precentorref14_Desk_Unsubscribe_0, hp, p1.o.1, at7, rcC, e3, bldR, fillR]
      refine Tells.stN o2 (ds := cgC cg0 .nils) (by rfl) (by rfl) (by rfl) (by rfl) fun g2 o3 x2 => ?_
      simp [C_precentorref14_Desk_Unsubscribe_0, o3.1, cgC, cg0, sxC]
      exact Tells.ok (no 7 g1 he (by decide) x1 g2 x2 o2.lt p1)
    | false =>
      rw [hb] at e3
      simp [J_precentorref14_Desk_Unsubscribe_0, hp, p1.o.1, at7, at8, rcC, e3, J_precentorref14_Desk_Unsubscribe_1]
      refine Tells.bind (ref_Has hX (r.vs.ext x1) hls c n) ?_
      rintro _ g1 ⟨rfl, rfl⟩
      cases ha : x.subs.any (sameK c n) with
      | false =>
        have he : unsE c x n = 4 := by simp only [unsE, hh, hb, ha]; rfl
        simp [bldR, fillR]
        refine Tells.stN o2 (ds := cgC cg0 .nils) (by rfl) (by rfl) (by rfl) (by rfl) fun g3 o3 x3 => ?_
        simp [C_precentorref14_Desk_Unsubscribe_0, o3.1, cgC, cg0, sxC]
        exact Tells.ok (no 4 g1 he (by decide) x1 g3 x3 o2.lt p1)
      | true =>
        have he : unsE c x n = 0 := by simp only [unsE, hh, hb, ha]; rfl
        simp [J_precentorref14_Desk_Unsubscribe_2]
        have at_ : ∀ s' : Rc, (ss.set c s')[c]? = some s' := fun s' => by rw [List.getElem?_set, if_pos rfl, if_pos (by omega)]
        refine Tells.st1 p1.o (by rfl) (by rfl) (hlen _ hl 7 (by decide)) fun g4 oB xB => ?_
        rw [rdC_set (br := br) (s' := { s with busy := true }) hs (k := 7) (by decide) rfl] at oB
        have at0 : (rdC br (ss.set c { s with busy := true }))[0]? = some (I br) := rfl
        simp [oB.1, at0, bldR, fillR, splice]
        refine Tells.st oB (cs := rdC br (ss.set c { s with busy := true })) (off := 1 + c * 11 + 2) (v := .agg [.bool true, I c, I br, I n, .nils]) (by rfl) (by rfl) (by rw [rdC_len]; simp [hl]; omega) fun g5 oC xC => ?_
        have hv : (AVal.agg [.bool true, I c, I br, I n, .nils]).cells = [.bool true, I c, I br, I n, .nils] := rfl
        rw [hv, rdC_put5 (at_ { s with busy := true }) (by simp [hl]), List.set_set] at oC
        have le5 : 1 + c * 11 + 2 + 5 ≤ (rdC br (ss.set c { s with busy := true, gone := true, cc := (c : Int), cb := br, cn := n, vf := .nils })).length := by rw [rdC_len]; simp [hl]; omega
        have f5 := rdC_five (br := br) (at_ { s with busy := true, gone := true, cc := (c : Int), cb := br, cn := n, vf := .nils })
        have X5 : Ext [b] g1 g5 := xB.trans xC
        have o25 := o2.ext X5 (by simpa using hne.symm)
        simp only at le5 f5
        simp [oC.1, le5, f5]
        refine Tells.stN o25 (ds := cgC ⟨true, ⟨c, br, n, []⟩⟩ .nils) (by rfl) (by rfl) (by rfl) (by rfl) fun g6 o6 x6 => ?_
        simp [C_precentorref14_Desk_Unsubscribe_0, o6.1, cgC, sxC]
        have X7 : Ext [b] h g5 := x1.of.trans X5
        have e1 : unsG br c n 0 = ⟨true, ⟨c, br, n, []⟩⟩ := by simp [unsG]
        have e2 : unsX x n 0 = { x with busy := true, gone := true, num := n } := by simp [unsX]
        rw [he] at hQ
        refine Tells.ok (hQ _ _ ⟨by rw [e1]; rfl, ⟨ss.set c { s with busy := true, gone := true, cc := (c : Int), cb := br, cn := n, vf := .nils }, ?_⟩, X7.then x6 fun z hz => .inr (by simp at hz; omega)⟩)
        rw [e2]
        have p7 := p.set hs hx X7 (s' := { s with busy := true, gone := true, cc := (c : Int), cb := br, cn := n, vf := .nils }) (x' := { x with busy := true, gone := true, num := n }) oC ⟨r.here, r.last, rfl, rfl, rfl, r.read, r.vs.ext X7, r.vl.ext X7⟩
        exact p7.ext x6 (by simpa using hne)
end
end Go.Proofs.Ytbolfamaffbnnaa

/-! Law DeskTells: the document's Open, Hear, Poll. -/
namespace Go.Proofs.Ytbolfamaffbnnaa
open Go.Ab

theorem openL_one {now : List Sx} {xs : List Cl} (hz : ∀ y, xs[0]? = some y → y.here = false) : openL now 1 xs = xs := by
  apply List.ext_getElem?
  intro c
  rw [openL_at]
  by_cases h : c = 0
  · subst h
    cases e : xs[0]? with
    | none => rfl
    | some x => simp [openX, hz x e]
  · have : ¬ c < 1 := by omega
    simp [this]

section
variable {X : XTab} {h : Heap} {b : Nat} {br : Int} {ss : List Rc} {xs : List Cl}

theorem d_Open (hX : OnlyKnown X) (p : DeskD h b br ss xs) (hz : ∀ y, xs[0]? = some y → y.here = false) {v : AVal} {now : List Sx} (ov : Sl sxR h v now) (sz : SzS now) :
    Tells (fun q => acallX Try.prog X q F_precentorref14_Desk_Open [.ptr b 0, v] h) fun a h' => (∃ ss', DeskD h' b br ss' (openL now 7 xs)) ∧ Ext [b] h h' := by
  refine R_precentorref14_Desk_Open _ _ (hX _ _ rfl) ?_
  refine Tells.prot fun Q' hQ => ?_
  have l2 := p.l2
  have u4 := Try.underlying4
  unfold S_precentorref14_Desk_Open
  try simp
  refine Tells.bind (Tells.loop (fun m t g => ∃ (i : Nat) (ss : List Rc), t 0 = .ptr b 0 ∧ t 1 = v ∧ t 4 = I i ∧ i + m = 7 ∧ Ext [b] h g ∧ DeskD g b br ss (openL now i xs))
    (Q := fun q g => q.1 = .exit 0 ∧ Ext [b] h g ∧ ∃ ss, DeskD g b br ss (openL now 7 xs)) ?_ 6 _ _ ⟨1, ss, by simp, by simp, by simp, by omega, .refl, by rw [openL_one hz]; exact p⟩) ?_
  · rintro m t g ⟨i, ss, t0, t1, t4, hi, xg, pg⟩
    refine Tells.prot fun Q2 hQ2 => ?_
    have w : IntKind.i64.wrap ((i : Int) + 1) = i + 1 := wrap_id (by omega) (by omega)
    unfold L_precentorref14_Desk_Open_0
    by_cases hc : i ≤ 6
    · have hc7 : i < 7 := by omega
      obtain ⟨x, hx⟩ : ∃ x, xs[i]? = some x := ⟨_, List.getElem?_eq_getElem (by omega)⟩
      have hxo : (openL now i xs)[i]? = some x := by rw [openL_at, hx]; simp
      obtain ⟨s, hs⟩ : ∃ s, ss[i]? = some s := ⟨_, List.getElem?_eq_getElem (by rw [pg.l1]; exact hc7)⟩
      have r := pg.r i s x hs hxo
      have hl := pg.l1
      obtain ⟨xh, xsub, xl, xb, xgo, xn, xlog, xr⟩ := x
      obtain ⟨sh, sla, sgo, scc, scb, scn, svf, sb, svs, svl, sr⟩ := s
      obtain ⟨e1, e2, e3, e4, e5, e6, rvs, rvl⟩ := r
      simp only at e1 e2 e3 e4 e5 e6 rvs rvl
      subst e1 e2 e3 e4 e5 e6
      have hp := ixp_at (len := 7) (z := 11) (b := b) (o := 1) hc7
      have at0 := rdC_at (br := br) hs (k := 0) (by decide)
      rw [Nat.add_zero] at at0
      have nxt : ∀ (t2 : T) (g2 : Heap) (s' : Rc), t2 0 = .ptr b 0 → t2 1 = v → t2 4 = I i → Ext [b] h g2 → Ext [b] g g2 → Ob g2 b (rdC br (ss.set i s')) → RcR g2 s' (openX i now ⟨sh, xsub, sla, sb, sgo, scn, xlog, xr⟩) → Q2 (.normal, upd t2 4 (I ((i : Int) + 1))) g2 := by
        intro t2 g2 s' a0 a1 a4 X2 x2 o2 r2
        refine hQ2 _ _ (.inl ⟨rfl, m - 1, by omega, i + 1, ss.set i s', by simp [a0], by simp [a1], by simp, by omega, X2, ?_⟩)
        rw [← openL_set hx]
        exact pg.set hs hxo x2 o2 r2
      cases sh with
      | false =>
        simp [t4, show (i : Int) ≤ 6 by omega, hc, J_precentorref14_Desk_Open_1, t0, hp, pg.o.1, at0, rcC, J_precentorref14_Desk_Open_2, w]
        refine Tells.ok (hQ2 _ _ (.inl ⟨rfl, m - 1, by omega, i + 1, ss, by simp [t0], by simp [t1], by simp, by omega, xg, ?_⟩))
        rw [← openL_set hx, show openX i now (⟨false, xsub, sla, sb, sgo, scn, xlog, xr⟩ : Cl) = ⟨false, xsub, sla, sb, sgo, scn, xlog, xr⟩ from by simp [openX], set_same hxo]
        exact pg
      | true =>
        simp [t4, show (i : Int) ≤ 6 by omega, hc, J_precentorref14_Desk_Open_1, t0, hp, pg.o.1, at0, rcC, J_precentorref14_Desk_Open_3, t1]
        refine Tells.bind (ref_Of hX (ov.ext xg) sz.1 (i : Int)) ?_
        rintro v2 g2 ⟨o2, x2⟩
        have ob2 := pg.o.e x2
        have hlen : ∀ ss' : List Rc, ss'.length = 7 → ∀ k, k < 11 → 1 + i * 11 + k < (rdC br ss').length := fun ss' h k hk => by rw [rdC_len, h]; omega
        try simp
        refine Tells.st1 ob2 o2.cells o2.one (hlen _ hl 8 (by decide)) fun g3 ob3 x3 => ?_
        rw [rdC_set (br := br) (s' := ⟨true, sla, sgo, scc, scb, scn, svf, sb, v2, svl, xr⟩) hs (k := 8) (by decide) rfl] at ob3
        have hc3 : (ss.set i ⟨true, sla, sgo, scc, scb, scn, svf, sb, v2, svl, xr⟩)[i]? = some ⟨true, sla, sgo, scc, scb, scn, svf, sb, v2, svl, xr⟩ := by rw [List.getElem?_set, if_pos rfl, if_pos (by omega)]
        have bt : ∀ k, k < 11 → (rdC br (ss.set i ⟨true, sla, sgo, scc, scb, scn, svf, sb, v2, svl, xr⟩))[1 + i * 11 + k]? = (rcC ⟨true, sla, sgo, scc, scb, scn, svf, sb, v2, svl, xr⟩)[k]? := fun k hk => rdC_at hc3 hk
        have b2 := bt 2 (by decide)
        have b5 := bt 5 (by decide)
        have b7 := bt 7 (by decide)
        have b8 := bt 8 (by decide)
        have o3 := o2.ext x3
        have X13 : Ext [b] g g3 := (x2.of).trans x3
        have X3 : Ext [b] h g3 := xg.trans X13
        have fl : (ofL now i).length ≤ 1000 := Nat.le_trans (List.length_filter_le _ _) sz.1
        cases sb with
        | false =>
          simp [ob3.1, b2, b5, b7, b8, rcC, J_precentorref14_Desk_Open_2, t4, w]
          refine Tells.ok (nxt _ g3 ⟨true, sla, sgo, scc, scb, scn, svf, false, v2, svl, xr⟩ (by simp [t0]) (by simp [t1]) (by simp [t4]) X3 X13 ob3 ?_)
          simp only [openX, if_true, Bool.false_and]
          exact ⟨rfl, rfl, rfl, rfl, rfl, rfl, o3, rvl.ext X13⟩
        | true =>
          simp [ob3.1, b2, b5, b7, b8, rcC]
          refine Tells.cbE (ref_Has hX o3 fl (i : Int) scn) ?_
          rintro _ g4 ⟨rfl, rfl⟩
          simp only [openX, if_true, Bool.true_and] at nxt
          generalize (ofL now i).any (sameK i scn) = hs' at nxt ⊢
          cases sgo <;> cases hs'
          · simp [ob3.1, b2, rcC, u4, J_precentorref14_Desk_Open_2, t4, w]
            exact Tells.ok (nxt _ g4 ⟨true, sla, false, scc, scb, scn, svf, true, v2, svl, xr⟩ (by simp [t0]) (by simp [t1]) (by simp [t4]) X3 X13 ob3 ⟨rfl, rfl, rfl, rfl, rfl, rfl, o3, rvl.ext X13⟩)
          · simp [ob3.1, b2, rcC, u4]
            refine Tells.st1 ob3 (by rfl) (by rfl) (hlen _ (by simp [hl]) 7 (by decide)) fun g5 ob5 x5 => ?_
            rw [rdC_set (br := br) (s' := ⟨true, sla, false, scc, scb, scn, svf, false, v2, svl, xr⟩) hc3 (k := 7) (by decide) rfl, List.set_set] at ob5
            simp [J_precentorref14_Desk_Open_2, t4, w]
            exact Tells.ok (nxt _ g5 ⟨true, sla, false, scc, scb, scn, svf, false, v2, svl, xr⟩ (by simp [t0]) (by simp [t1]) (by simp [t4]) (X3.trans x5) (X13.trans x5) ob5 ⟨rfl, rfl, rfl, rfl, rfl, rfl, o3.ext x5, rvl.ext (X13.trans x5)⟩)
          · simp [ob3.1, b2, rcC, u4]
            refine Tells.st1 ob3 (by rfl) (by rfl) (hlen _ (by simp [hl]) 7 (by decide)) fun g5 ob5 x5 => ?_
            rw [rdC_set (br := br) (s' := ⟨true, sla, true, scc, scb, scn, svf, false, v2, svl, xr⟩) hc3 (k := 7) (by decide) rfl, List.set_set] at ob5
            simp [J_precentorref14_Desk_Open_2, t4, w]
            exact Tells.ok (nxt _ g5 ⟨true, sla, true, scc, scb, scn, svf, false, v2, svl, xr⟩ (by simp [t0]) (by simp [t1]) (by simp [t4]) (X3.trans x5) (X13.trans x5) ob5 ⟨rfl, rfl, rfl, rfl, rfl, rfl, o3.ext x5, rvl.ext (X13.trans x5)⟩)
          · simp [ob3.1, b2, rcC, u4, J_precentorref14_Desk_Open_2, t4, w]
            exact Tells.ok (nxt _ g4 ⟨true, sla, true, scc, scb, scn, svf, true, v2, svl, xr⟩ (by simp [t0]) (by simp [t1]) (by simp [t4]) X3 X13 ob3 ⟨rfl, rfl, rfl, rfl, rfl, rfl, o3, rvl.ext X13⟩)
    · have : i = 7 := by omega
      subst this
      simp [t4]
      exact Tells.ok (hQ2 _ _ (.inr ⟨by simp, rfl, xg, ss, pg⟩))
  · rintro ⟨ex, t⟩ g ⟨rfl, x, r⟩
    try simp
    exact Tells.ok (hQ _ _ ⟨r, x⟩)

variable {c : Nat} {x : Cl}
theorem d_Hear (hX : OnlyKnown X) (p : DeskD h b br ss xs) (hx : xs[c]? = some x) (hz : c = 0 → x.here = false) (hlog : x.log.length < 2 ^ 30) {sn : Sn} {va : AVal} (oa : Sl attrR h va sn.ats) :
    Tells (fun q => acallX Try.prog X q F_precentorref14_Desk_Hear [.ptr b 0, I c, .agg (snC sn va)] h) fun a h' => a = .bool x.here ∧ (∃ ss', DeskD h' b br ss' (xs.set c (hearX x sn))) ∧ Ext [b] h h' := by
  have hc : c < 7 := by have := (List.getElem?_eq_some_iff.1 hx).1; have := p.l2; omega
  obtain ⟨s, hs⟩ : ∃ s, ss[c]? = some s := ⟨_, List.getElem?_eq_getElem (by rw [p.l1]; exact hc)⟩
  have r := p.r c s x hs hx
  have hl := p.l1
  have at9 := rdC_at (br := br) hs (k := 9) (by decide)
  have hp := ixp_at (len := 7) (z := 11) (b := b) (o := 1) hc
  refine R_precentorref14_Desk_Hear _ _ _ (hX _ _ rfl) ?_
  refine Tells.prot fun Q' hQ => ?_
  unfold S_precentorref14_Desk_Hear
  try simp
  refine Tells.box (cs := snC sn va) (by simp [snC, AVal.known, oa.known]) (by simp [snC, AVal.cells]) fun g1 be oe x1 l1 => ?_
  have p1 := p.e x1
  try simp
  refine Tells.bind (d_Here hX p1 hx hz) ?_
  rintro _ g1 ⟨rfl, rfl⟩
  cases hh : x.here with
  | false =>
    simp
    have : hearX x sn = x := by simp [hearX, hh]
    exact Tells.ok (hQ _ _ ⟨by rw [hh], ⟨ss, by rw [this, set_same hx]; exact p1⟩, x1.of⟩)
  | true =>
    have e : hearX x sn = { x with log := x.log ++ [sn] } := by simp [hearX, hh]
    simp [J_precentorref14_Desk_Hear_0, hp]
    refine Tells.litV (r := snR) (xs := []) (css := []) (by rfl) trivial (by rfl) (by rfl) (by rfl) fun v8 g2 gl2 x2 hv8 => ?_
    have X2 := x1.trans x2
    have o2 := p1.o.e x2
    have oe2 := oe.e x2
    have kl2 : g2.n0 ≤ g1.next := by rw [x2.n0]; exact n0_le g1
    have nb : b ≠ g1.next := by have := p1.o.lt; omega
    have nbe : be ≠ g1.next := by have := oe.lt; omega
    have kb2 := o2.kill kl2 nb
    have ke2 := oe2.kill kl2 nbe
    simp [kb2, at9, rcC]
    refine Tells.appNE gl2 (r.vl.ext X2) (by rfl) (by simp; omega) (by decide) x2.next fun v3 g3 gl3 x3 y3 z3 => ?_
    have Y3 := y3 [] x2
    have o3 := p1.o.e Y3
    have oe3 := oe.e Y3
    have kl3 : g3.n0 ≤ g1.next := by rw [Y3.n0]; exact n0_le g1
    have ke3 := oe3.kill kl3 nbe
    simp only [snC] at ke2 ke3
    simp [ke2, ke3]
    have oa3 := (oa.ext x1).ext Y3
    refine Tells.app1E gl3 (by simp [AVal.cells, snC]) (by simp [AVal.known, oa3.known]) (show snR.rep g3 (snC sn va) sn from ⟨va, rfl, oa3⟩) (by rfl) (by rfl) (by simp; omega) (by decide) Y3.next fun v4 g4 gl4 x4 y4 z4 => ?_
    have Y4 := y4 [] Y3
    have o4 := p1.o.e Y4
    try simp
    refine Tells.st1E o4 gl4.1.cells gl4.1.one (by rw [rdC_len, hl]; omega) fun g5 o5 x5 => ?_
    rw [rdC_set (br := br) (s' := { s with vlog := v4 }) hs (k := 9) (by decide) rfl] at o5
    try simp
    have X5 : Ext [b] h g5 := ((x1.trans Y4).of).trans x5
    refine Tells.ok (hQ _ _ ⟨by rw [hh], ⟨ss.set c { s with vlog := v4 }, ?_⟩, X5⟩)
    rw [e]
    exact p.set hs hx X5 o5 ⟨r.here, r.last, r.busy, r.gone, r.num, r.read, r.vs.ext X5, by simpa using gl4.1.ext x5⟩

theorem d_Poll (hX : OnlyKnown X) (p : DeskD h b br ss xs) (hx : xs[c]? = some x) (hz : c = 0 → x.here = false) (hlog : x.log.length < 2 ^ 30) :
    Tells (fun q => acallX Try.prog X q F_precentorref14_Desk_Poll [.ptr b 0, I c] h) fun a h' => (∃ va, a = .tup [.agg (snC (pollS x) va), I (pollE x)] ∧ Sl attrR h' va (pollS x).ats) ∧ (∃ ss', DeskD h' b br ss' (xs.set c (pollX x))) ∧ Ext [b] h h' := by
  have hc : c < 7 := by have := (List.getElem?_eq_some_iff.1 hx).1; have := p.l2; omega
  obtain ⟨s, hs⟩ : ∃ s, ss[c]? = some s := ⟨_, List.getElem?_eq_getElem (by rw [p.l1]; exact hc)⟩
  have r := p.r c s x hs hx
  have hl := p.l1
  have at9 := rdC_at (br := br) hs (k := 9) (by decide)
  have at10 := rdC_at (br := br) hs (k := 10) (by decide)
  have hp := ixp_at (len := 7) (z := 11) (b := b) (o := 1) hc
  refine R_precentorref14_Desk_Poll _ _ (hX _ _ rfl) ?_
  refine Tells.prot fun Q' hQ => ?_
  unfold S_precentorref14_Desk_Poll
  try simp
  refine Tells.new fun g1 b2 o2 x1 l1 => ?_
  have hne : b ≠ b2 := by have := p.o.lt; omega
  have p1 := p.e x1
  have no : pollE x = 4 → ∀ (h' : Heap), Ext [b2] g1 h' → Q' (.tup [.agg (snC sn0 .nils), I 4]) h' := by
    intro hE h' xh
    refine hQ _ _ ⟨⟨.nils, by simp [pollS, hE], by simp [pollS, hE, sn0]; exact Sl.nil⟩, ⟨ss, ?_⟩, x1.of.then xh fun z hz => .inr (by simp at hz; omega)⟩
    have : pollX x = x := by simp [pollX, hE]
    rw [this, set_same hx]
    exact p1.ext xh (by simpa using hne)
  try simp
  refine Tells.cbE (d_Here hX p1 hx hz) ?_
  rintro _ g1 ⟨rfl, rfl⟩
  cases hh : x.here with
  | false =>
    have hE : pollE x = 4 := by simp [pollE, hh]
    simp [bldR, fillR]
    refine Tells.stN o2 (ds := snC sn0 .nils) (by rfl) (by rfl) (by rfl) (by rfl) fun g2 o3 x2 => ?_
    simp [C_precentorref14_Desk_Poll_0, o3.1, snC]
    exact Tells.ok (no hE _ x2)
  | true =>
    have lo := r.vl.ext x1
    have hr := r.read
    by_cases hlt : x.read < x.log.length
    · obtain ⟨y, hy⟩ : ∃ y, x.log[x.read]? = some y := ⟨_, List.getElem?_eq_getElem hlt⟩
      have hE : pollE x = 0 := by simp [pollE, hh, hlt]
      have hS : pollS x = y := by simp only [pollS, hE, if_true, hy, Option.getD_some]
      have hlt' : ¬ (x.log.length : Int) ≤ x.read := by omega
      have hlt2 : ¬ x.log.length ≤ x.read := by omega
      have w : IntKind.i64.wrap ((x.read : Int) + 1) = x.read + 1 := wrap_id (by omega) (by omega)
      have w2 : IntKind.i64.wrap (x.read : Int) = x.read := wrap_id (by omega) (by omega)
      simp [hp, p1.o.1, at9, at10, rcC, hr, lo.len, hlt', hlt2, J_precentorref14_Desk_Poll_0, w]
      refine Tells.st1 p1.o (by rfl) (by rfl) (by rw [rdC_len, hl]; omega) fun g2 o3 x2 => ?_
      rw [rdC_set (br := br) (s' := { s with read := (x.read : Int) + 1 }) hs (k := 10) (by decide) rfl] at o3
      have hc' : (ss.set c { s with read := (x.read : Int) + 1 })[c]? = some { s with read := (x.read : Int) + 1 } := by
        rw [List.getElem?_set, if_pos rfl, if_pos (by omega)]
      have bt9 := rdC_at (br := br) hc' (k := 9) (by decide)
      have bt10 := rdC_at (br := br) hc' (k := 10) (by decide)
      have lo2 := lo.ext x2
      obtain ⟨bb, q, B, va, q1, q2, q3, q4, oa, q5⟩ := sn_at lo2 hy
      have o22 := o2.ext x2 (by simpa using hne.symm)
      simp [o3.1, bt9, bt10, rcC, w2, q1, q2, q3, q4]
      refine Tells.stNE o22 (ds := snC y va) (by rfl) (by rfl) (by simp [snC, oa.one]) (by rfl) fun g4 o4 x4 => ?_
      simp [C_precentorref14_Desk_Poll_0, o4.1, snC]
      have X2 : Ext [b] h g2 := x1.of.trans x2
      refine Tells.ok (hQ _ _ ⟨⟨va, by rw [hS, hE]; rfl, by rw [hS]; exact oa.ext x4⟩, ⟨ss.set c { s with read := (x.read : Int) + 1 }, ?_⟩, X2.then x4 fun z hz => .inr (by simp at hz; omega)⟩)
      have : pollX x = { x with read := x.read + 1 } := by simp [pollX, hE]
      rw [this]
      have p2 := p.set hs hx X2 (s' := { s with read := (x.read : Int) + 1 }) (x' := { x with read := x.read + 1 }) o3 ⟨r.here, r.last, r.busy, r.gone, r.num, by simp, r.vs.ext X2, r.vl.ext X2⟩
      exact p2.ext x4 (by simpa using hne)
    · have hE : pollE x = 4 := by simp [pollE, hlt]
      have hlt' : (x.log.length : Int) ≤ x.read := by omega
      have hlt2 : x.log.length ≤ x.read := by omega
      simp [hp, p1.o.1, at9, at10, rcC, hr, lo.len, hlt', hlt2, bldR, fillR]
      refine Tells.stN o2 (ds := snC sn0 .nils) (by rfl) (by rfl) (by rfl) (by rfl) fun g2 o3 x2 => ?_
      simp [C_precentorref14_Desk_Poll_0, o3.1, snC]
      exact Tells.ok (no hE _ x2)
end
end Go.Proofs.Ytbolfamaffbnnaa

/-! Law DeskTells: sameChange, sameSeen. -/
namespace Go.Proofs.Ytbolfamaffbnnaa
open Go.Ab

section
variable {X : XTab}
theorem same_Change (hX : OnlyKnown X) {h : Heap} {g : Cg} {v w : AVal} (o : SlN prR h v g.s.fl) (p : SlN prR h w g.s.fl) (sz : SzX g.s) :
    Tells (fun q => acallX Try.prog X q F_precentorlaw22_sameChange [.agg (cgC g v), .agg (cgC g w)] h) fun r h' => r = .bool true ∧ Ext [] h h' := by
  refine R_precentorlaw22_sameChange _ _ (hX _ _ rfl) ?_
  refine Tells.prot fun Q' hQ => ?_
  have u4 := Try.underlying4
  unfold S_precentorlaw22_sameChange
  try simp
  refine Tells.box (cs := cgC g v) (by simp [cgC, sxC, AVal.known, o.known]) (by simp [AVal.cells]) fun h1 b1 o1 x1 l1 => ?_
  try simp
  refine Tells.box (cs := cgC g w) (by simp [cgC, sxC, AVal.known, p.known]) (by simp [AVal.cells]) fun h2 b2 o2 x2 l2 => ?_
  have o12 := o1.e x2
  have X2 := x1.trans x2
  have o1' := o12.1
  have o2' := o2.1
  simp only [cgC, sxC] at o1' o2'
  simp [o1', o2', u4]
  refine Tells.bind (ref_SameSub hX (x := g.s) (y := g.s) (c := sxC g.s v) (d := sxC g.s w) ⟨v, rfl, o.ext X2, fun _ _ => trivial⟩ ⟨w, rfl, p.ext X2, fun _ _ => trivial⟩ sz sz) ?_
  rintro _ h3 ⟨rfl, x3⟩
  rw [sameSx_self]
  try simp
  exact Tells.ok (hQ _ _ ⟨rfl, X2.trans x3⟩)

theorem same_Seen (hX : OnlyKnown X) {h : Heap} {s : Sn} {v w : AVal} (o : Sl attrR h v s.ats) (p : Sl attrR h w s.ats) (hl : s.ats.length < 2 ^ 60) :
    Tells (fun q => acallX Try.prog X q F_precentorlaw22_sameSeen [.agg (snC s v), .agg (snC s w)] h) fun r h' => r = .bool true ∧ Ext [] h h' := by
  refine R_precentorlaw22_sameSeen _ _ (hX _ _ rfl) ?_
  refine Tells.prot fun Q' hQ => ?_
  unfold S_precentorlaw22_sameSeen
  try simp
  refine Tells.box (cs := snC s v) (by simp [snC, AVal.known, o.known]) (by simp [snC, AVal.cells]) fun h1 b1 o1 x1 l1 => ?_
  try simp
  refine Tells.box (cs := snC s w) (by simp [snC, AVal.known, p.known]) (by simp [snC, AVal.cells]) fun h2 b2 o2 x2 l2 => ?_
  have o12 := o1.e x2
  have X2 := x1.trans x2
  have o1' := o12.1
  have o2' := o2.1
  simp only [snC] at o1' o2'
  simp [o1', o2']
  refine Tells.bind (ref_SameAttrs hX (o.ext X2) (p.ext X2) hl hl) ?_
  rintro _ h3 ⟨rfl, x3⟩
  rw [sameA_self]
  try simp
  exact Tells.ok (hQ _ _ ⟨rfl, X2.trans x3⟩)
end
end Go.Proofs.Ytbolfamaffbnnaa

/-! Law DeskTells: what its arguments are. -/
namespace Go.Proofs.Ytbolfamaffbnnaa
open Go.Ab Go.ChangeShapes Go.WideShapes Go.ChangeAt Go.RowKit Go.Deep

/-- Tests that were handed in. -/
structure RawP (h : Heap) (v : AVal) (l : List Prd) : Prop where
  sl : Sl prR h v l
  sz : ∀ p, p ∈ l → SzN p
  len : l.length < 2 ^ 63

theorem read_str {H : Type} {enc : TypeId × Value → H} {P : Program} {w : World} {base : Nat} {spare : Nat → Bool} {held : Bool} {t : TypeId} {n : Nat} {v : Value} {y : DataW H × List MemPlace} (ht : P.underlying t = some .string) (h : DataW.trod enc P w base spare held n t [v] = some y) (m : Nat) : ∃ s : ByteArray, ofV m v = .str s ∧ s.size < 2 ^ 63 := by
  obtain ⟨s, q1, _, q3⟩ := DataW.trod_string ht h
  cases q1
  have : s.size ≤ 2 ^ 63 - 1 := q3
  exact ⟨s, rfl, by omega⟩
theorem read_bool {H : Type} {enc : TypeId × Value → H} {P : Program} {w : World} {base : Nat} {spare : Nat → Bool} {held : Bool} {t : TypeId} {n : Nat} {v : Value} {y : DataW H × List MemPlace} (ht : P.underlying t = some .bool) (h : DataW.trod enc P w base spare held n t [v] = some y) (m : Nat) : ∃ b : Bool, ofV m v = .bool b := by
  obtain ⟨b, q1, _⟩ := DataW.trod_bool ht h
  cases q1
  exact ⟨b, rfl⟩
theorem read_float {H : Type} {enc : TypeId × Value → H} {P : Program} {w : World} {base : Nat} {spare : Nat → Bool} {held : Bool} {t : TypeId} {n : Nat} {v : Value} {y : DataW H × List MemPlace} (ht : P.underlying t = some (.float .f64)) (h : DataW.trod enc P w base spare held n t [v] = some y) (m : Nat) : ∃ x : Nat, ofV m v = .flt .f64 x := by
  cases n with
  | zero => simp [DataW.trod] at h
  | succ n =>
    unfold DataW.trod at h
    rw [ht] at h
    split at h <;> simp_all
    rename_i k k' b e1
    obtain ⟨⟨rfl, _⟩, _⟩ := h
    exact ⟨b, rfl⟩

theorem reads_preds {P : Program} {t e v i n x s b u : TypeId} (ht : P.underlying t = some (.slice e)) (hc : P.cellsOf e = 13)
    (hf : ∃ fs, P.underlying e = some (.struct fs) ∧ ∀ k, k < ([(s, 0, 1), (i, 1, 1), (v, 2, 5), (v, 7, 5), (u, 12, 1)] : List (TypeId × Nat × Nat)).length → ∃ f, fs[k]? = some f ∧ ([(s, 0, 1), (i, 1, 1), (v, 2, 5), (v, 7, 5), (u, 12, 1)] : List (TypeId × Nat × Nat))[k]? = some (f.type, f.offset, P.cellsOf f.type))
    (hg : ∃ fs, P.underlying v = some (.struct fs) ∧ ∀ k, k < ([(i, 0, 1), (n, 1, 1), (x, 2, 1), (s, 3, 1), (b, 4, 1)] : List (TypeId × Nat × Nat)).length → ∃ f, fs[k]? = some f ∧ ([(i, 0, 1), (n, 1, 1), (x, 2, 1), (s, 3, 1), (b, 4, 1)] : List (TypeId × Nat × Nat))[k]? = some (f.type, f.offset, P.cellsOf f.type))
    (hu : P.underlying u = some (.slice v)) (hcv : P.cellsOf v = 5)
    (hi : P.underlying i = some (.int .i64)) (hn : P.underlying n = some (.int .i64)) (hx : P.underlying x = some (.float .f64)) (hs : P.underlying s = some .string) (hb : P.underlying b = some .bool) : Reads P t fun h a => ∃ l, RawP h a l := by
  intro H enc W b0 base w d ps hval hd
  have value : ∀ {H : Type} (enc : TypeId × Value → H) (w : World) (base n' : Nat) (cs : List Value) (y : DataW H × List MemPlace), cs.length = 5 → DataW.trod enc P w base (fun _ => true) true n' v cs = some y → ∃ x : Vl, ofVs w.heap.size cs = vlC x := by
    intro H enc w base n' cs y hl hy
    obtain ⟨_, hr⟩ := read_struct _ hg hy
    match cs, hl with
    | [a0, a1, a2, a3, a4], _ =>
      obtain ⟨m0, z0, k0⟩ := hr 0 _ _ _ rfl
      obtain ⟨m1, z1, k1⟩ := hr 1 _ _ _ rfl
      obtain ⟨m2, z2, k2⟩ := hr 2 _ _ _ rfl
      obtain ⟨m3, z3, k3⟩ := hr 3 _ _ _ rfl
      obtain ⟨m4, z4, k4⟩ := hr 4 _ _ _ rfl
      obtain ⟨i1, e1, _⟩ := read_int hi (by simpa using k0) w.heap.size
      obtain ⟨i2, e2, _⟩ := read_int hn (by simpa using k1) w.heap.size
      obtain ⟨f3, e3⟩ := read_float hx (by simpa using k2) w.heap.size
      obtain ⟨s4, e4, _⟩ := read_str hs (by simpa using k3) w.heap.size
      obtain ⟨b5, e5⟩ := read_bool hb (by simpa using k4) w.heap.size
      exact ⟨⟨i1, i2, f3, s4, b5⟩, by simp [ofVs, e1, e2, e3, e4, e5, vlC]⟩
  obtain ⟨xs, q1, q2, q3, _⟩ := reads_sliceS prR (Good := SzN) ht hc (fun {H} enc w hw0 base m cs y hl hy => by
    obtain ⟨_, hq⟩ := read_struct _ hf hy
    match cs, hl with
    | [a0, a1, a2, a3, a4, a5, a6, a7, a8, a9, a10, a11, a12], _ =>
      obtain ⟨n0, y0, h0⟩ := hq 0 _ _ _ rfl
      obtain ⟨n1, y1, h1⟩ := hq 1 _ _ _ rfl
      obtain ⟨n2, y2, h2⟩ := hq 2 _ _ _ rfl
      obtain ⟨n3, y3, h3⟩ := hq 3 _ _ _ rfl
      obtain ⟨n4, y4, h4⟩ := hq 4 _ _ _ rfl
      obtain ⟨s0, e0, b0⟩ := read_str hs (by simpa using h0) w.heap.size
      obtain ⟨i1, e1, _⟩ := read_int hi (by simpa using h1) w.heap.size
      obtain ⟨x2, e2⟩ := value enc w base n2 [a2, a3, a4, a5, a6] y2 rfl (by simpa using h2)
      obtain ⟨x3, e3⟩ := value enc w base n3 [a7, a8, a9, a10, a11] y3 rfl (by simpa using h3)
      obtain ⟨sv, set, e4, o4, _, l4, b4⟩ := read_slice vlR (Good := fun _ => True) hu hcv hw0 (fun n' cs y hl hy => by
        obtain ⟨x, hx⟩ := value enc w base n' cs y hl hy
        exact ⟨x, hx, trivial⟩) (by simpa using h4)
      cases e4
      have on : SlN vlR (Heap.ofW w) (ofV w.heap.size a12) set := by
        rcases o4 with o | ⟨rfl, b, sz, hv⟩
        · exact .inl o
        · exact .inr ⟨rfl, b, sz, hv, b4 b (by rw [hv]; simp [AVal.blks])⟩
      refine ⟨⟨s0, i1, x2, x3, set⟩, ⟨_, ?_, on, fun _ _ => trivial⟩, ⟨l4, b0⟩⟩
      simp only [ofVs] at e2 e3 ⊢
      simp only [prC, vlC, List.cons.injEq, List.cons_append, List.nil_append] at e2 e3 ⊢
      simp [e0, e1, e2, e3]) enc W b0 base w d ps hval hd
  exact ⟨xs, q1, q2, q3⟩

theorem reads26 : Reads Try.prog 26 fun h a => ∃ l, RawP h a l :=
  reads_preds (e := 38) (v := 35) (i := 3) (n := 2) (x := 33) (s := 9) (b := 4) (u := 36) Try.underlying26 (by kernel_rfl)
    ⟨_, Try.underlying38, fun k hk => match k, hk with
    | 0, _ => ⟨_, rfl, by kernel_rfl⟩
    | 1, _ => ⟨_, rfl, by kernel_rfl⟩
    | 2, _ => ⟨_, rfl, by kernel_rfl⟩
    | 3, _ => ⟨_, rfl, by kernel_rfl⟩
    | 4, _ => ⟨_, rfl, by kernel_rfl⟩⟩
    ⟨_, Try.underlying35, fun k hk => match k, hk with
    | 0, _ => ⟨_, rfl, by kernel_rfl⟩
    | 1, _ => ⟨_, rfl, by kernel_rfl⟩
    | 2, _ => ⟨_, rfl, by kernel_rfl⟩
    | 3, _ => ⟨_, rfl, by kernel_rfl⟩
    | 4, _ => ⟨_, rfl, by kernel_rfl⟩⟩ Try.underlying36 (by kernel_rfl) Try.underlying3 Try.underlying2 Try.underlying33 Try.underlying9 Try.underlying4
end Go.Proofs.Ytbolfamaffbnnaa
