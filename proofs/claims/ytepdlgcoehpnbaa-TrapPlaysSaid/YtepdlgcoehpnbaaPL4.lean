/-
  Law TrapPlays: trap.Each of the program's player's two functions.
-/
import Derived.Test.YtepdlgcoehpnbaaPL3
set_option linter.unusedVariables false
set_option linter.unusedSimpArgs false
namespace Go.Proofs.Ytepdlgcoehpnbaa
open Go.Ab

def clR (pb db : Nat) : Rp Nat := ⟨1, by decide, fun _ c f => c = [.fn f [] [.ptr pb 0, .ptr db 0]], fun h => by rw [h]; rfl, fun h => by rw [h]; rfl, fun h _ => h⟩

section
variable {X : XTab} {h1 h : Heap} {xs : List (Int × Int)} {p a a1 a2 pb db : Nat} {lv s v : AVal} {log l1 l2 : List Int} {deep o : Int}

theorem cl_at (sl : Sl (clR pb db) h v [37, 38]) {i f : Nat} (hd : ([37, 38] : List Nat)[i]? = some f) : ∃ b q B, ixsR 1 v (.int .i64 (i : Int)) = some (.ptr b q) ∧ h.get b = some B ∧ B[q]? = some (.fn f [] [.ptr pb 0, .ptr db 0]) := by
  obtain ⟨b, q, B, c, q1, q2, q3⟩ := sl.at (n := 1) rfl (i := (i : Int)) (by omega) (by simpa using hd)
  obtain rfl : c = [.fn f [] [.ptr pb 0, .ptr db 0]] := q3
  exact ⟨b, q, B, q1, q2.get, q2.cell0 (by simp)⟩

theorem each_rnd (hX : OnlyKnown X) (hd : 0 ≤ deep ∧ deep ≤ 5) {i f : Nat} (hi : ([37, 38] : List Nat)[i]? = some f) (B : RunF X xs (deep + 1) a log o a1 l1) (P : Pl h1 xs p lv a log h s) (opb : Ob h pb [.ptr p 0]) (odb : Ob h db [I deep])
    (sl : Sl (clR pb db) h v [37, 38]) {t : T} (t0 : t 0 = v) (t7 : t 7 = v) (t8 : t 8 = I 2) (t9 : t 9 = I i) :
    TellsV (fun v g => 50 ≤ o ∧ OutV o v ∧ Aft h1 xs p lv a1 l1 h s g) (fun m => L_trap_Each_1 Try.prog (acallX Try.prog X m) m t h) fun rr g => o ≤ 8 ∧ Aft h1 xs p lv a1 l1 h s g ∧
      (o = 0 → rr.1 = .normal ∧ rr.2 0 = v ∧ rr.2 7 = v ∧ rr.2 8 = I 2 ∧ rr.2 9 = I ((i + 1 : Nat) : Int)) ∧ (o ≠ 0 → rr.1 = .ret ∧ rr.2 2 = I i ∧ rr.2 3 = I o) := by
  have hlt : i < 2 := (List.getElem?_eq_some_iff.1 hi).1
  have hf : f = 36 ∨ f = 37 ∨ f = 38 := by
    rcases i with _ | _ | i
    · simp at hi; omega
    · simp at hi; omega
    · simp at hi
  refine TV.prot fun V' Q' hV hQ => ?_
  unfold L_trap_Each_1
  have c : decide ((i : Int) < 2) = true := by simp; omega
  obtain ⟨b, q, Bk, q1, q2, q3⟩ := cl_at sl hi
  simp [t0, t7, t8, t9, c, J_trap_Each_2, q1, Heap.cell, q2, q3]
  refine TV.bind (runf hX hf hd B P opb odb) (fun v g k => hV _ _ k) ?_
  rintro _ g ⟨ho, rfl, A⟩
  by_cases h0 : o = 0
  · subst h0
    have hw : IntKind.i64.wrap ((i : Int) + 1) = ((i + 1 : Nat) : Int) := by rw [wrap_id (by omega) (by omega)]; omega
    simp [J_trap_Each_3, t9]
    exact TV.ok (hQ _ _ ⟨by omega, A, fun _ => ⟨rfl, by simp [t0], by simp [t7], by simp [t8], by simp [hw]⟩, fun k => absurd rfl k⟩)
  · have : (o != 0) = true := by simp [h0]
    simp [this]
    exact TV.ok (hQ _ _ ⟨ho, A, fun k => absurd k h0, fun _ => ⟨rfl, by simp, by simp⟩⟩)

theorem each_one (hX : OnlyKnown X) (hd : 0 ≤ deep ∧ deep ≤ 5) (ho : o ≠ 0) (B : RunF X xs (deep + 1) a log o a1 l1) (P : Pl h1 xs p lv a log h s) (opb : Ob h pb [.ptr p 0]) (odb : Ob h db [I deep])
    (sl : Sl (clR pb db) h v [37, 38]) : TellsV (fun v g => 50 ≤ o ∧ OutV o v ∧ Aft h1 xs p lv a1 l1 h s g) (fun m => acallX Try.prog X m F_trap_Each [v] h) fun r g => o ≤ 8 ∧ r = .tup [I 0, I o] ∧ Aft h1 xs p lv a1 l1 h s g := by
  refine RV_trap_Each _ (hX _ _ rfl) ?_
  refine TV.prot fun V' Q' hV hQ => ?_
  unfold S_trap_Each
  simp [sl.len]
  refine TV.bind (W := fun v g => 50 ≤ o ∧ OutV o v ∧ Aft h1 xs p lv a1 l1 h s g) (R := fun rr g => o ≤ 8 ∧ rr.1 = .ret ∧ rr.2 2 = I 0 ∧ rr.2 3 = I o ∧ Aft h1 xs p lv a1 l1 h s g) (TL.go (TL.roll (TV.mono (each_rnd hX hd (i := 0) (f := 37) rfl B P opb odb sl (by simp) (by simp) (by simp) (by simp)) ?_ fun v g k => k))) (fun v g k => hV _ _ k) ?_
  · rintro rr g ⟨h8, A, _, k⟩
    obtain ⟨k1, k2, k3⟩ := k ho
    exact .inr ⟨by rw [k1]; simp, h8, k1, by simpa using k2, k3, A⟩
  · rintro ⟨ex, t⟩ g ⟨h8, rfl, t2, t3, A⟩
    simp only at t2 t3
    simp [t2, t3]
    exact TV.ok (hQ _ _ ⟨h8, rfl, A⟩)

theorem each_two (hX : OnlyKnown X) (hd : 0 ≤ deep ∧ deep ≤ 5) (B : RunF X xs (deep + 1) a log 0 a1 l1) (B2 : RunF X xs (deep + 1) a1 l1 o a2 l2) (P : Pl h1 xs p lv a log h s) (opb : Ob h pb [.ptr p 0]) (odb : Ob h db [I deep]) (hpb : pb ≠ p) (hdb : db ≠ p)
    (sl : Sl (clR pb db) h v [37, 38]) : TellsV (fun v g => 50 ≤ o ∧ OutV o v ∧ Aft h1 xs p lv a2 l2 h s g) (fun m => acallX Try.prog X m F_trap_Each [v] h) fun r g => o ≤ 8 ∧ r = .tup [I (if o = 0 then 2 else 1), I o] ∧ Aft h1 xs p lv a2 l2 h s g := by
  refine RV_trap_Each _ (hX _ _ rfl) ?_
  refine TV.prot fun V' Q' hV hQ => ?_
  unfold S_trap_Each
  simp [sl.len]
  refine TV.bind (W := fun v g => 50 ≤ o ∧ OutV o v ∧ Aft h1 xs p lv a2 l2 h s g) (R := fun rr g => o ≤ 8 ∧ Aft h1 xs p lv a2 l2 h s g ∧ ((o ≠ 0 ∧ rr.1 = .ret ∧ rr.2 2 = I 1 ∧ rr.2 3 = I o) ∨ (o = 0 ∧ rr.1 = .exit 0 ∧ rr.2 0 = v))) (TL.go (TL.roll (TV.mono (each_rnd hX hd (i := 0) (f := 37) rfl B P opb odb sl (by simp) (by simp) (by simp) (by simp)) ?_ fun v g k => by omega))) (fun v g k => hV _ _ k) ?_
  · rintro rr g ⟨_, ⟨s1, P1, x1, z1⟩, k, _⟩
    obtain ⟨k1, k2, k3, k4, k5⟩ := k rfl
    have off : ∀ {b : Nat} {cs : List AVal}, Ob h b cs → b ≠ p → b ∉ p :: s.blks := fun ob hb q => by
      rcases List.mem_cons.1 q with q | q
      · exact hb q
      · exact P.g.1.ob ob q
    have lift : ∀ {g2 : Heap}, Aft h1 xs p lv a2 l2 g s1 g2 → Aft h1 xs p lv a2 l2 h s g2 := fun A => Aft.thn x1 z1 A
    refine .inl ⟨k1, TL.roll (TV.mono (each_rnd hX hd (i := 1) (f := 38) rfl B2 P1 (opb.ext x1 (off opb hpb)) (odb.ext x1 (off odb hdb)) (sl.ext x1) k2 k3 k4 k5) ?_ fun v g2 q => ⟨q.1, q.2.1, lift q.2.2⟩)⟩
    rintro rr2 g2 ⟨h8, A, j, j'⟩
    by_cases h0 : o = 0
    · obtain ⟨j1, j2, j3, j4, j5⟩ := j h0
      refine .inl ⟨j1, TL.roll ?_⟩
      refine TV.prot fun V2 Q2 hV2 hQ2 => ?_
      unfold L_trap_Each_1
      simp [j2, j3, j4, j5]
      exact TV.ok (hQ2 _ _ (.inr ⟨by simp, h8, lift A, .inr ⟨h0, rfl, by simp [j2]⟩⟩))
    · obtain ⟨j1, j2, j3⟩ := j' h0
      exact .inr ⟨by rw [j1]; simp, h8, lift A, .inl ⟨h0, j1, by simpa using j2, j3⟩⟩
  · rintro ⟨ex, t⟩ g ⟨h8, A, q⟩
    rcases q with ⟨h0, rfl, t2, t3⟩ | ⟨rfl, rfl, t0⟩
    · simp only at t2 t3
      simp [t2, t3]
      exact TV.ok (hQ _ _ ⟨h8, by rw [if_neg h0], A⟩)
    · simp only at t0
      obtain ⟨s2, P2, x2, z2⟩ := A
      simp [J_trap_Each_0, t0, (sl.ext x2).len]
      exact TV.ok (hQ _ _ ⟨h8, rfl, s2, P2, x2, z2⟩)
end
end Go.Proofs.Ytepdlgcoehpnbaa
