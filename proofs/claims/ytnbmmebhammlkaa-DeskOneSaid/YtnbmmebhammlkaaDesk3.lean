/-
  desk: Unsubscribe, of subscriptions that have no filter; Busy.
-/
import Derived.Test.YtnbmmebhammlkaaDesk2
set_option linter.unusedVariables false
set_option linter.unusedSimpArgs false
namespace Go.Proofs.Ytnbmmebhammlkaa
open Go.Ab
def busyN (ss : List Seat) : Nat := ss.countP fun s => s.here && s.busy
section
variable {X : XTab}
theorem desk_seat0 (hX : OnlyKnown X) (b : Nat) (h : Heap) : Tells (fun q => acallX Try.prog X q F_desk_Desk_seat [.ptr b 0, I 0] h) fun a h' => a = .nilp ∧ h' = h := by
  refine R_desk_Desk_seat _ _ (hX _ _ rfl) ?_
  unfold S_desk_Desk_seat
  simp
  exact Tells.ok ⟨rfl, rfl⟩
theorem desk_Unsubscribe (hX : OnlyKnown X) {h : Heap} {b : Nat} {br : Int} {ss : List Seat} (o : Ob h b (deskC br ss)) (hl : ss.length = 7) {c : Nat} {s : Seat} (h1 : 1 ≤ c) (hc : ss[c]? = some s) (hs : s.here = true)
    {xs : List Sb} (lo : Sl sbR h s.vsub xs) (hxs : xs.length < 2 ^ 30) (hb : s.busy = false) {n : Int} (hn : hasSb xs c n = true) :
    Tells (fun q => acallX Try.prog X q F_desk_Desk_Unsubscribe [.ptr b 0, I c, I n] h) fun a h' => Ext [b] h h' ∧ a = .tup [.agg (chC true ⟨c, br, n⟩), I 0] ∧ Ob h' b (deskC br (ss.set c { s with busy := true, gone := true, num := n })) := by
  have hc7 : c < 7 := by have := (List.getElem?_eq_some_iff.1 hc).1; omega
  refine R_desk_Desk_Unsubscribe _ _ _ (hX _ _ rfl) ?_
  refine Tells.prot fun Q' hQ => ?_
  have at1 := deskC_at (br := br) hc (k := 1) (by decide)
  have at3 := deskC_at (br := br) hc (k := 3) (by decide)
  have pn := fun y z => ptr_nil (t := 73) Try.underlying73 y z b (1 + c * 8)
  have hlen : ∀ ss' : List Seat, ss'.length = 7 → ∀ k, k < 8 → 1 + c * 8 + k < (deskC br ss').length := fun ss' h k hk => by rw [deskC_len, h]; omega
  unfold S_desk_Desk_Unsubscribe
  try simp
  refine Tells.new fun g1 b2 o2 x1 l1 => ?_
  have hne : b ≠ b2 := by have := o.lt; omega
  have o1 := o.e x1
  try simp
  refine Tells.bind (desk_seat hX o1 hl h1 hc) ?_
  rintro _ g1 ⟨rfl, rfl⟩
  simp [hs, pn, o1.1, at1, at3, seatC, hb]
  refine Tells.bind (subs_HasN hX (lo.ext x1) hxs c n) ?_
  rintro _ g2 ⟨rfl, x2⟩
  have o12 := o1.e x2
  simp [hn, J_desk_Desk_Unsubscribe_0]
  refine Tells.st1 o12 (by rfl) (by rfl) (hlen _ hl 3 (by decide)) fun g3 oB xB => ?_
  rw [deskC_set (br := br) (s' := { s with busy := true }) hc (k := 3) (by decide) rfl] at oB
  have hcB : (ss.set c { s with busy := true })[c]? = some { s with busy := true } := by rw [List.getElem?_set, if_pos rfl, if_pos (by omega)]
  try simp
  refine Tells.st1 oB (by rfl) (by rfl) (hlen _ (by simp [hl]) 4 (by decide)) fun g4 oC xC => ?_
  rw [deskC_set (br := br) (s' := { s with busy := true, gone := true }) hcB (k := 4) (by decide) rfl, List.set_set] at oC
  have hcC : (ss.set c { s with busy := true, gone := true })[c]? = some { s with busy := true, gone := true } := by rw [List.getElem?_set, if_pos rfl, if_pos (by omega)]
  try simp
  refine Tells.st1 oC (by rfl) (by rfl) (hlen _ (by simp [hl]) 5 (by decide)) fun g5 oD xD => ?_
  rw [deskC_set (br := br) (s' := { s with busy := true, gone := true, num := n }) hcC (k := 5) (by decide) rfl, List.set_set] at oD
  have at0 : (deskC br (ss.set c { s with busy := true, gone := true, num := n }))[0]? = some (I br) := rfl
  have X5 : Ext [b] g1 g5 := ((x2.of.trans xB).trans xC).trans xD
  have o25 : Ob g5 b2 [.bool false, I 0, I 0, I 0, .nils] := o2.ext X5 (by simpa using hne.symm)
  simp [oD.1, at0, bldR, fillR, splice]
  refine Tells.stN o25 (ds := chC true ⟨c, br, n⟩) (by rfl) (by rfl) (by rfl) (by rfl) fun g6 o6 x6 => ?_
  simp [C_desk_Desk_Unsubscribe_0, o6.1, chC, sbC]
  exact Tells.ok (hQ _ _ ⟨(x1.of.trans X5).then x6 fun z hz => .inr (by simp at hz; omega), rfl, oD.ext x6 (by simpa using hne)⟩)
theorem desk_Busy (hX : OnlyKnown X) {h : Heap} {b : Nat} {br : Int} {ss : List Seat} (o : Ob h b (deskC br ss)) (hl : ss.length = 7) (h0 : ss[0]? = some seat0) :
    Tells (fun q => acallX Try.prog X q F_desk_Desk_Busy [.ptr b 0] h) fun a h' => a = I (busyN ss) ∧ h' = h := by
  refine R_desk_Desk_Busy _ (hX _ _ rfl) ?_
  refine Tells.prot fun Q' hQ => ?_
  unfold S_desk_Desk_Busy
  try simp
  refine Tells.bind (Tells.loop (fun m t g => ∃ i : Nat, t 0 = .ptr b 0 ∧ t 3 = I (busyN (ss.take i)) ∧ t 6 = I i ∧ i + m = 7 ∧ g = h)
    (Q := fun p g => p.1 = .exit 0 ∧ p.2 3 = I (busyN ss) ∧ g = h) ?_ 7 _ _ ?_) ?_
  · rintro m t g ⟨i, t0, t3, t6, hi, rfl⟩
    refine Tells.prot fun Q2 hQ2 => ?_
    unfold L_desk_Desk_Busy_1
    by_cases hc : i < 7
    · obtain ⟨s, hs⟩ : ∃ s, ss[i]? = some s := ⟨_, List.getElem?_eq_getElem (by omega)⟩
      have w : IntKind.i64.wrap ((i : Int) + 1) = i + 1 := wrap_id (by omega) (by omega)
      have ht : busyN (ss.take (i + 1)) = busyN (ss.take i) + if (s.here && s.busy) = true then 1 else 0 := by
        unfold busyN
        rw [List.take_add_one, hs]
        simp [List.countP_append, List.countP_cons]
      have hle : busyN (ss.take i) ≤ 7 := Nat.le_trans List.countP_le_length (by simp; omega)
      have wb : IntKind.i64.wrap ((busyN (ss.take i) : Int) + 1) = busyN (ss.take i) + 1 := wrap_id (by omega) (by omega)
      have at3 := deskC_at (br := br) hs (k := 3) (by decide)
      simp [t6, show (i : Int) < 7 by omega, J_desk_Desk_Busy_2, t0]
      by_cases hz : i = 0
      · subst hz
        rw [h0] at hs
        cases hs
        refine Tells.bind (desk_seat0 hX b g) ?_
        rintro _ g ⟨rfl, rfl⟩
        have nn : ∀ y z, aBin Try.prog .neq 73 y z .nilp .nilp = some (.bool false) := fun y z => by kernel_rfl
        simp [nn, J_desk_Desk_Busy_3, t6]
        exact Tells.ok (hQ2 _ _ (.inl ⟨rfl, m - 1, by omega, 1, by simp [t0], by simp [t3, ht, seat0], by simp; decide, by omega, rfl⟩))
      · refine Tells.bind (desk_seat hX o hl (by omega) hs) ?_
        rintro _ g ⟨rfl, rfl⟩
        have pn := fun y z => ptr_nil' (t := 73) Try.underlying73 y z b (1 + i * 8)
        have nn : ∀ y z, aBin Try.prog .neq 73 y z .nilp .nilp = some (.bool false) := fun y z => by kernel_rfl
        cases hh : s.here with
        | false =>
          simp [nn, J_desk_Desk_Busy_3, t6, w]
          exact Tells.ok (hQ2 _ _ (.inl ⟨rfl, m - 1, by omega, i + 1, by simp [t0], by simp [t3, ht, hh], by simp, by omega, rfl⟩))
        | true =>
          cases hb : s.busy with
          | false =>
            simp [pn, o.1, at3, seatC, hb, J_desk_Desk_Busy_3, t6, w]
            exact Tells.ok (hQ2 _ _ (.inl ⟨rfl, m - 1, by omega, i + 1, by simp [t0], by simp [t3, ht, hh, hb], by simp, by omega, rfl⟩))
          | true =>
            simp [pn, o.1, at3, seatC, hb, J_desk_Desk_Busy_3, t6, t3, w, wb]
            exact Tells.ok (hQ2 _ _ (.inl ⟨rfl, m - 1, by omega, i + 1, by simp [t0], by simp [ht, hh, hb], by simp, by omega, rfl⟩))
    · have : i = 7 := by omega
      subst this
      simp [t6]
      exact Tells.ok (hQ2 _ _ (.inr ⟨by simp, rfl, by simp [t3, List.take_of_length_le (show ss.length ≤ 7 by omega)], rfl⟩))
  · exact ⟨0, by simp, by simp [busyN], by simp, by omega, rfl⟩
  · rintro ⟨ex, t⟩ g ⟨rfl, t3, rfl⟩
    simp only at t3
    simp [J_desk_Desk_Busy_0, t3]
    exact Tells.ok (hQ _ _ ⟨rfl, rfl⟩)
end
end Go.Proofs.Ytnbmmebhammlkaa
