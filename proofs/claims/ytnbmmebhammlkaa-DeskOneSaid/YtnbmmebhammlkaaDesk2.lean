/-
  desk: Subscribe, Unsubscribe, of subscriptions that have no filter.
-/
import Derived.Test.YtnbmmebhammlkaaDesk1
import Derived.Test.YtnbmmebhammlkaaSubs0
set_option linter.unusedVariables false
set_option linter.unusedSimpArgs false
namespace Go.Proofs.Ytnbmmebhammlkaa
open Go.Ab
/-- A change: of no filter. -/
def chC (gone : Bool) (x : Sb) : List AVal := .bool gone :: sbC x
def sb0 : Sb := ⟨0, 0, 0⟩
section
variable {X : XTab}
theorem desk_Subscribe (hX : OnlyKnown X) {h : Heap} {b : Nat} {br : Int} {ss : List Seat} (o : Ob h b (deskC br ss)) (hl : ss.length = 7) {c : Nat} {s : Seat} (h1 : 1 ≤ c) (hc : ss[c]? = some s) (hs : s.here = true)
    {xs : List Sb} (lo : Sl sbR h s.vsub xs) (hg : 0 ≤ s.given ∧ s.given < 2 ^ 61) :
    Tells (fun q => acallX Try.prog X q F_desk_Desk_Subscribe [.ptr b 0, I c, .nils] h) fun a h' => Ext [b] h h' ∧
      ((s.busy = true ∧ a = .tup [.agg (chC false sb0), I 7] ∧ Ob h' b (deskC br ss)) ∨
       (s.busy = false ∧ 3 ≤ xs.length ∧ a = .tup [.agg (chC false sb0), I 6] ∧ Ob h' b (deskC br ss)) ∨
       (s.busy = false ∧ xs.length < 3 ∧ a = .tup [.agg (chC false ⟨c, br, s.given + 1⟩), I 0] ∧ Ob h' b (deskC br (ss.set c { s with given := s.given + 1, busy := true, gone := false, num := s.given + 1 })))) := by
  have hc7 : c < 7 := by have := (List.getElem?_eq_some_iff.1 hc).1; omega
  refine R_desk_Desk_Subscribe _ _ _ (hX _ _ rfl) ?_
  refine Tells.prot fun Q' hQ => ?_
  have at1 := deskC_at (br := br) hc (k := 1) (by decide)
  have at2 := deskC_at (br := br) hc (k := 2) (by decide)
  have at3 := deskC_at (br := br) hc (k := 3) (by decide)
  have pn := fun y z => ptr_nil (t := 73) Try.underlying73 y z b (1 + c * 8)
  unfold S_desk_Desk_Subscribe
  try simp
  refine Tells.new fun g1 b2 o2 x1 l1 => ?_
  have hne : b ≠ b2 := by have := o.lt; omega
  have o1 := o.e x1
  try simp
  refine Tells.bind (desk_seat hX o1 hl h1 hc) ?_
  rintro _ g1 ⟨rfl, rfl⟩
  simp [hs, pn]
  refine Tells.bind (filter_RightN hX g1) ?_
  rintro _ g1 ⟨rfl, rfl⟩
  cases hb : s.busy with
  | true =>
    simp [o1.1, at3, seatC, hb, bldR, fillR]
    refine Tells.stN o2 (ds := chC false sb0) (by rfl) (by rfl) (by rfl) (by rfl) fun g2 o3 x2 => ?_
    simp [C_desk_Desk_Subscribe_0, o3.1, chC, sbC]
    exact Tells.ok (hQ _ _ ⟨x1.of.then x2 fun z hz => .inr (by simp at hz; omega), .inl ⟨hb, rfl, o1.ext x2 (by simpa using hne)⟩⟩)
  | false =>
    by_cases h3 : 3 ≤ xs.length
    · simp [o1.1, at1, at3, seatC, hb, (lo.ext x1).len, show (3 : Int) ≤ xs.length by omega, bldR, fillR]
      refine Tells.stN o2 (ds := chC false sb0) (by rfl) (by rfl) (by rfl) (by rfl) fun g2 o3 x2 => ?_
      simp [C_desk_Desk_Subscribe_0, o3.1, chC, sbC]
      exact Tells.ok (hQ _ _ ⟨x1.of.then x2 fun z hz => .inr (by simp at hz; omega), .inr (.inl ⟨hb, h3, rfl, o1.ext x2 (by simpa using hne)⟩)⟩)
    · have w : IntKind.i64.wrap (s.given + 1) = s.given + 1 := wrap_id (by omega) (by omega)
      have hlen : ∀ ss' : List Seat, ss'.length = 7 → ∀ k, k < 8 → 1 + c * 8 + k < (deskC br ss').length := fun ss' h k hk => by rw [deskC_len, h]; omega
      simp [o1.1, at1, at2, at3, seatC, hb, (lo.ext x1).len, show ¬ (3 : Int) ≤ xs.length by omega, show ¬ (4611686018427387904 : Int) ≤ s.given by omega, J_desk_Desk_Subscribe_0, w]
      refine Tells.st1 o1 (by rfl) (by rfl) (hlen _ hl 2 (by decide)) fun g2 oA xA => ?_
      rw [deskC_set (br := br) (s' := { s with given := s.given + 1 }) hc (k := 2) (by decide) rfl] at oA
      have hcA : (ss.set c { s with given := s.given + 1 })[c]? = some { s with given := s.given + 1 } := by rw [List.getElem?_set, if_pos rfl, if_pos (by omega)]
      have atA := deskC_at (br := br) hcA (k := 2) (by decide)
      simp [oA.1, atA, seatC]
      refine Tells.st1 oA (by rfl) (by rfl) (hlen _ (by simp [hl]) 3 (by decide)) fun g3 oB xB => ?_
      rw [deskC_set (br := br) (s' := { s with given := s.given + 1, busy := true }) hcA (k := 3) (by decide) rfl, List.set_set] at oB
      have hcB : (ss.set c { s with given := s.given + 1, busy := true })[c]? = some { s with given := s.given + 1, busy := true } := by rw [List.getElem?_set, if_pos rfl, if_pos (by omega)]
      try simp
      refine Tells.st1 oB (by rfl) (by rfl) (hlen _ (by simp [hl]) 4 (by decide)) fun g4 oC xC => ?_
      rw [deskC_set (br := br) (s' := { s with given := s.given + 1, busy := true, gone := false }) hcB (k := 4) (by decide) rfl, List.set_set] at oC
      have hcC : (ss.set c { s with given := s.given + 1, busy := true, gone := false })[c]? = some { s with given := s.given + 1, busy := true, gone := false } := by rw [List.getElem?_set, if_pos rfl, if_pos (by omega)]
      try simp
      refine Tells.st1 oC (by rfl) (by rfl) (hlen _ (by simp [hl]) 5 (by decide)) fun g5 oD xD => ?_
      rw [deskC_set (br := br) (s' := { s with given := s.given + 1, busy := true, gone := false, num := s.given + 1 }) hcC (k := 5) (by decide) rfl, List.set_set] at oD
      have hcD : (ss.set c { s with given := s.given + 1, busy := true, gone := false, num := s.given + 1 })[c]? = some { s with given := s.given + 1, busy := true, gone := false, num := s.given + 1 } := by rw [List.getElem?_set, if_pos rfl, if_pos (by omega)]
      have atD := deskC_at (br := br) hcD (k := 2) (by decide)
      have at0 : (deskC br (ss.set c { s with given := s.given + 1, busy := true, gone := false, num := s.given + 1 }))[0]? = some (I br) := rfl
      simp [oD.1, atD, at0, seatC]
      refine Tells.cbE (filter_CopyN hX g5) ?_
      rintro _ g5 ⟨rfl, rfl⟩
      have X5 : Ext [b] g1 g5 := ((xA.trans xB).trans xC).trans xD
      have o25 : Ob g5 b2 [.bool false, I 0, I 0, I 0, .nils] := o2.ext X5 (by simpa using hne.symm)
      simp [oD.1, atD, at0, seatC, bldR, fillR, splice]
      refine Tells.stNE o25 (ds := chC false ⟨c, br, s.given + 1⟩) (by rfl) (by rfl) (by rfl) (by rfl) fun g6 o6 x6 => ?_
      simp [C_desk_Desk_Subscribe_0, o6.1, chC, sbC]
      exact Tells.ok (hQ _ _ ⟨(x1.of.trans X5).then x6 fun z hz => .inr (by simp at hz; omega), .inr (.inr ⟨hb, by omega, rfl, oD.ext x6 (by simpa using hne)⟩)⟩)
end
end Go.Proofs.Ytnbmmebhammlkaa
