/-
  desk: Open, where client 5 alone is here.
-/
import Derived.Test.YtnbmmebhammlkaaDesk3
set_option linter.unusedVariables false
set_option linter.unusedSimpArgs false
namespace Go.Proofs.Ytnbmmebhammlkaa
open Go.Ab
def one5 (s : Seat) : List Seat := [seat0, seat0, seat0, seat0, seat0, s, seat0]
theorem one5_at {s : Seat} {i : Nat} (h : i < 7) (h5 : i ≠ 5) : (one5 s)[i]? = some seat0 := by
  rcases (show i = 0 ∨ i = 1 ∨ i = 2 ∨ i = 3 ∨ i = 4 ∨ i = 6 by omega) with rfl | rfl | rfl | rfl | rfl | rfl <;> rfl
section
variable {X : XTab}
theorem desk_Open (hX : OnlyKnown X) {h : Heap} {b : Nat} {br : Int} {s : Seat} (o : Ob h b (deskC br (one5 s))) (hs : s.here = true) {v : AVal} {xs : List Sb} (ov : Sl sbR h v xs) (hxs : xs.length < 2 ^ 30) :
    Tells (fun q => acallX Try.prog X q F_desk_Desk_Open [.ptr b 0, v] h) fun a h' => Ext [b] h h' ∧ ∃ v', Sl sbR h' v' (xs.filter fun x => x.c == 5) ∧ Ob h' b (deskC br (one5 { s with vsub := v', busy := s.busy && (s.gone == hasSb (xs.filter fun x => x.c == 5) 5 s.num) })) := by
  refine R_desk_Desk_Open _ _ (hX _ _ rfl) ?_
  refine Tells.prot fun Q' hQ => ?_
  obtain ⟨here, vsub, given, busy, gone, num, vlog, read⟩ := s
  simp only at hs
  subst hs
  have u4 := Try.underlying4
  have nn : ∀ y z, aBin Try.prog .eql 73 y z .nilp .nilp = some (.bool true) := fun y z => by kernel_rfl
  unfold S_desk_Desk_Open
  try simp
  refine Tells.bind (Tells.loop (fun m t g => ∃ i : Nat, t 0 = .ptr b 0 ∧ t 1 = v ∧ t 6 = I i ∧ i + m = 7 ∧ Ext [b] h g ∧ ((i ≤ 5 ∧ Ob g b (deskC br (one5 (⟨true, vsub, given, busy, gone, num, vlog, read⟩ : Seat)))) ∨ (5 < i ∧ ∃ v', Sl sbR g v' (xs.filter fun x => x.c == 5) ∧ Ob g b (deskC br (one5 (⟨true, v', given, busy && (gone == hasSb (xs.filter fun x => x.c == 5) 5 num), gone, num, vlog, read⟩ : Seat))))))
    (Q := fun p g => p.1 = .exit 0 ∧ Ext [b] h g ∧ ∃ v', Sl sbR g v' (xs.filter fun x => x.c == 5) ∧ Ob g b (deskC br (one5 (⟨true, v', given, busy && (gone == hasSb (xs.filter fun x => x.c == 5) 5 num), gone, num, vlog, read⟩ : Seat)))) ?_ 7 _ _ ?_) ?_
  · rintro m t g ⟨i, t0, t1, t6, hi, x, st⟩
    refine Tells.prot fun Q2 hQ2 => ?_
    have w : IntKind.i64.wrap ((i : Int) + 1) = i + 1 := wrap_id (by omega) (by omega)
    unfold L_desk_Desk_Open_0
    by_cases hc : i < 7
    · simp [t6, show (i : Int) < 7 by omega, J_desk_Desk_Open_1, t0]
      by_cases h5 : i = 5
      · subst h5
        rcases st with ⟨_, ob⟩ | ⟨q, _⟩
        · refine Tells.bind (desk_seat hX ob rfl (c := 5) (by decide) (s := (⟨true, vsub, given, busy, gone, num, vlog, read⟩ : Seat)) rfl) ?_
          rintro _ g ⟨rfl, rfl⟩
          have pn := fun y z => ptr_nil (t := 73) Try.underlying73 y z b (1 + 5 * 8)
          simp [pn, J_desk_Desk_Open_3, t1]
          refine Tells.bind (subs_OfN hX (ov.ext x) hxs 5) ?_
          rintro v2 g2 ⟨gl2, x2⟩
          have ob2 := ob.e x2
          try simp
          refine Tells.st1 ob2 gl2.1.cells gl2.1.one (by rw [deskC_len]; simp [one5]) fun g3 ob3 x3 => ?_
          have e3 : (deskC br (one5 (⟨true, vsub, given, busy, gone, num, vlog, read⟩ : Seat))).set (1 + 5 * 8 + 1) v2 = deskC br (one5 (⟨true, v2, given, busy, gone, num, vlog, read⟩ : Seat)) := rfl
          have ob3 : Ob g3 b (deskC br (one5 (⟨true, v2, given, busy, gone, num, vlog, read⟩ : Seat))) := ob3
          have gl3 := gl2.1.ext x3
          have bt : ∀ k, k < 8 → (deskC br (one5 (⟨true, v2, given, busy, gone, num, vlog, read⟩ : Seat)))[1 + 5 * 8 + k]? = (seatC (⟨true, v2, given, busy, gone, num, vlog, read⟩ : Seat))[k]? := fun k hk => deskC_at (c := 5) rfl hk
          have b1 := bt 1 (by decide)
          have b3 := bt 3 (by decide)
          have b4 := bt 4 (by decide)
          have b5 := bt 5 (by decide)
          simp only [Nat.reduceAdd, Nat.reduceMul] at b1 b3 b4 b5
          have X3 : Ext [b] h g3 := (x.trans x2.of).trans x3
          have fl : (xs.filter fun x => x.c == 5).length < 2 ^ 30 := Nat.lt_of_le_of_lt (List.length_filter_le _ _) hxs
          cases busy with
          | false =>
            simp [ob3.1, b1, b3, b4, b5, seatC, J_desk_Desk_Open_2, t6]
            exact Tells.ok (hQ2 _ _ (.inl ⟨rfl, m - 1, by omega, 6, by simp [t0], by simp [t1], by simp; decide, by omega, X3, .inr ⟨by omega, v2, gl3, ob3⟩⟩))
          | true =>
            simp [ob3.1, b1, b3, b4, b5, seatC]
            refine Tells.cbE (subs_HasN hX gl3 fl 5 num) ?_
            rintro _ g4 ⟨rfl, x4⟩
            have ob4 := ob3.e x4
            have gl4 := gl3.ext x4
            have X4 : Ext [b] h g4 := X3.trans x4.of
            generalize hasSb (xs.filter fun x => x.c == 5) 5 num = hh at *
            cases gone <;> cases hh
            · simp [ob4.1, ob3.1, b4, seatC, u4, J_desk_Desk_Open_2, t6]
              exact Tells.ok (hQ2 _ _ (.inl ⟨rfl, m - 1, by omega, 6, by simp [t0], by simp [t1], by simp; decide, by omega, X4, .inr ⟨by omega, v2, gl4, ob4⟩⟩))
            · simp [ob4.1, ob3.1, b4, seatC, u4]
              refine Tells.st1 ob4 (by rfl) (by rfl) (by rw [deskC_len]; simp [one5]) fun g5 ob5 x5 => ?_
              simp [J_desk_Desk_Open_2, t6]
              exact Tells.ok (hQ2 _ _ (.inl ⟨rfl, m - 1, by omega, 6, by simp [t0], by simp [t1], by simp; decide, by omega, X4.trans x5, .inr ⟨by omega, v2, gl4.ext x5, ob5⟩⟩))
            · simp [ob4.1, ob3.1, b4, seatC, u4]
              refine Tells.st1 ob4 (by rfl) (by rfl) (by rw [deskC_len]; simp [one5]) fun g5 ob5 x5 => ?_
              simp [J_desk_Desk_Open_2, t6]
              exact Tells.ok (hQ2 _ _ (.inl ⟨rfl, m - 1, by omega, 6, by simp [t0], by simp [t1], by simp; decide, by omega, X4.trans x5, .inr ⟨by omega, v2, gl4.ext x5, ob5⟩⟩))
            · simp [ob4.1, ob3.1, b4, seatC, u4, J_desk_Desk_Open_2, t6]
              exact Tells.ok (hQ2 _ _ (.inl ⟨rfl, m - 1, by omega, 6, by simp [t0], by simp [t1], by simp; decide, by omega, X4, .inr ⟨by omega, v2, gl4, ob4⟩⟩))
        · omega
      · have nil5 : ∀ (s5 : Seat), Ob g b (deskC br (one5 s5)) → Tells (fun m => acallX Try.prog X m F_desk_Desk_seat [.ptr b 0, I i] g) fun a h' => a = .nilp ∧ h' = g := fun s5 ob => by
          by_cases hz : i = 0
          · subst hz; exact desk_seat0 hX b g
          · exact desk_seat hX ob rfl (by omega) (one5_at hc h5)
        have key : Tells (fun m => acallX Try.prog X m F_desk_Desk_seat [.ptr b 0, I i] g) fun a h' => a = .nilp ∧ h' = g := by
          rcases st with ⟨_, ob⟩ | ⟨_, v', _, ob⟩
          · exact nil5 _ ob
          · exact nil5 _ ob
        refine Tells.bind key ?_
        rintro _ g ⟨rfl, rfl⟩
        simp [nn, J_desk_Desk_Open_2, t6, w]
        refine Tells.ok (hQ2 _ _ (.inl ⟨rfl, m - 1, by omega, i + 1, by simp [t0], by simp [t1], by simp, by omega, x, ?_⟩))
        rcases st with ⟨q, ob⟩ | ⟨q, r⟩
        · exact .inl ⟨by omega, ob⟩
        · exact .inr ⟨by omega, r⟩
    · have : i = 7 := by omega
      subst this
      simp [t6]
      rcases st with ⟨q, _⟩ | ⟨_, r⟩
      · omega
      · exact Tells.ok (hQ2 _ _ (.inr ⟨by simp, rfl, x, r⟩))
  · exact ⟨0, by simp, by simp, by simp, by omega, .refl, .inl ⟨by omega, o⟩⟩
  · rintro ⟨ex, t⟩ g ⟨rfl, x, r⟩
    try simp
    exact Tells.ok (hQ _ _ ⟨x, r⟩)
end
end Go.Proofs.Ytnbmmebhammlkaa
