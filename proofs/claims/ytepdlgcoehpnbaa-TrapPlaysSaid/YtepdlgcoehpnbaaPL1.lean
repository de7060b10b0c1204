/-
  Law TrapPlays: what comes of a player; loops, a round at a time.
-/
import Derived.Test.YtepdlgcoehpnbaaPL0
set_option linter.unusedVariables false
set_option linter.unusedSimpArgs false
namespace Go.Ab

/-- A loop, from some fuel on, whatever is spent already. -/
def TellsL (V : AVal → Heap → Prop) (body : Nat → T → Heap → Res (Ex × T)) (t : T) (h : Heap) (Q : Ex × T → Heap → Prop) : Prop := ∀ c, TellsV V (fun m => loopN (body m) (m - c) t h) Q

theorem TL.roll {V : AVal → Heap → Prop} {body : Nat → T → Heap → Res (Ex × T)} {t : T} {h : Heap} {Q : Ex × T → Heap → Prop}
    (k : TellsV V (fun m => body m t h) fun r h' => (r.1 = .normal ∧ TellsL V body r.2 h' Q) ∨ (r.1 ≠ .normal ∧ Q r h')) : TellsL V body t h Q := by
  intro c
  obtain ⟨x, q, N, e⟩ := k
  cases x with
  | fail => exact q.elim
  | pan v h' =>
    refine ⟨.pan v h', q, max N (c + 1), fun m hm => ?_⟩
    have hm : N ≤ m ∧ c + 1 ≤ m := Nat.max_le.1 hm
    obtain ⟨p, hp⟩ : ∃ p, m - c = p + 1 := ⟨m - c - 1, by omega⟩
    show loopN (body m) (m - c) t h = _
    rw [hp]
    simp only [loopN, e m hm.1, Res.bind]
  | ok r h' =>
    rcases q with ⟨hr, hl⟩ | ⟨hr, hq⟩
    · obtain ⟨a, q2, N2, e2⟩ := hl (c + 1)
      refine ⟨a, q2, max (max N N2) (c + 1), fun m hm => ?_⟩
      have hm : (N ≤ m ∧ N2 ≤ m) ∧ c + 1 ≤ m := ⟨Nat.max_le.1 (Nat.max_le.1 hm).1, (Nat.max_le.1 hm).2⟩
      obtain ⟨p, hp⟩ : ∃ p, m - c = p + 1 := ⟨m - c - 1, by omega⟩
      show loopN (body m) (m - c) t h = _
      rw [hp]
      simp only [loopN, e m hm.1.1, Res.bind]
      obtain ⟨ex, t'⟩ := r
      simp only at hr; subst hr
      have h3 : loopN (body m) (m - (c + 1)) t' h' = a := e2 m hm.1.2
      rw [show m - (c + 1) = p by omega] at h3
      exact h3
    · refine ⟨.ok r h', hq, max N (c + 1), fun m hm => ?_⟩
      have hm : N ≤ m ∧ c + 1 ≤ m := Nat.max_le.1 hm
      obtain ⟨p, hp⟩ : ∃ p, m - c = p + 1 := ⟨m - c - 1, by omega⟩
      show loopN (body m) (m - c) t h = _
      rw [hp]
      simp only [loopN, e m hm.1, Res.bind]
      obtain ⟨ex, t'⟩ := r
      cases ex with
      | normal => exact absurd rfl hr
      | exit i => rfl
      | ret => rfl
theorem TL.go {V : AVal → Heap → Prop} {body : Nat → T → Heap → Res (Ex × T)} {t : T} {h : Heap} {Q : Ex × T → Heap → Prop} (k : TellsL V body t h Q) : TellsV V (fun m => loopN (body m) m t h) Q := k 0
end Go.Ab

namespace Go.Proofs.Ytepdlgcoehpnbaa
open Go.Ab

/-- What comes of a player. -/
def Aft (h1 : Heap) (xs : List (Int × Int)) (p : Nat) (lv : AVal) (a : Nat) (log : List Int) (h : Heap) (s : AVal) (h' : Heap) : Prop :=
  ∃ s', Pl h1 xs p lv a log h' s' ∧ Ext (p :: s.blks) h h' ∧ ∀ b, b ∈ s'.blks → b ∈ s.blks ∨ h.next ≤ b

section
variable {X : XTab} {h1 h h' h2 : Heap} {xs : List (Int × Int)} {p a a' : Nat} {lv s s' : AVal} {log log' : List Int}

theorem Aft.of (P : Pl h1 xs p lv a log h' s) (x : Ext [p] h h') (hs : ∀ b, b ∈ s.blks → b < h.next) : Aft h1 xs p lv a log h s h' := ⟨s, P, x.mono fun b q => by rw [List.mem_singleton.1 q]; simp, fun b q => .inl q⟩
/-- .. and then. -/
theorem Aft.thn (x : Ext (p :: s.blks) h h') (z : ∀ b, b ∈ s'.blks → b ∈ s.blks ∨ h.next ≤ b) (k : Aft h1 xs p lv a log h' s' h2) : Aft h1 xs p lv a log h s h2 := by
  obtain ⟨s2, P2, x2, z2⟩ := k
  refine ⟨s2, P2, x.then x2 fun b hb => ?_, fun b hb => ?_⟩
  · rcases List.mem_cons.1 hb with q | q
    · exact .inl (by rw [q]; simp)
    · rcases z b q with k | k
      · exact .inl (List.mem_cons_of_mem _ k)
      · exact .inr k
  · rcases z2 b hb with q | q
    · exact z b q
    · exact .inr (Nat.le_trans x.next q)

/-- A mark more. -/
theorem Pl.logged {x : Int} {g : Heap} (P : Pl h1 xs p lv a log h s) (g2 : Gl intR h1 h2 s' (log ++ [x])) (x2 : Ext s.blks h h2) (z2 : ∀ b, b ∈ s'.blks → b ∈ s.blks ∨ h.next ≤ b) (o3 : Ob g p [lv, I a, s']) (x3 : Ext [p] h2 g) : Aft h1 xs p lv a (log ++ [x]) h s g := by
  have o2 : Ob h2 p [lv, I a, s] := P.o.ext x2 (P.g.1.ob P.o)
  refine ⟨s', ⟨o3, (P.l.ext x2).ext x3, g2.extO x3 fun b hb => .inl (by rw [List.mem_singleton.1 hb]; exact o2.2.1), Nat.le_trans P.le (Nat.le_trans x2.next x3.next)⟩, ?_, z2⟩
  exact (x2.mono fun b q => List.mem_cons_of_mem _ q).then x3 fun b q => .inl (by rw [List.mem_singleton.1 q]; simp)

/-- What out tells of a panic. -/
def OutV (out : Int) (v : AVal) : Prop := (1 ≤ out ∧ out ≤ 8 ∧ v = .iface 22 (I out)) ∨ ∃ n : Int, 0 ≤ n ∧ n ≤ 8 ∧ out = 50 + n ∧ v = .iface 3 (I n)
def OutOk (out : Int) : Prop := (0 ≤ out ∧ out ≤ 8) ∨ (50 ≤ out ∧ out ≤ 58)

def WantF (X : XTab) (xs : List (Int × Int)) (deep : Int) (a : Nat) (log : List Int) (out : Int) (a' : Nat) (log' : List Int) : Prop :=
  ∀ (h1 : Heap) (p : Nat) (lv : AVal) (h : Heap) (s : AVal), Pl h1 xs p lv a log h s → Tells (fun m => acallX Try.prog X m F_precentorlaw1_player_want [.ptr p 0, I deep] h) fun r h' => r = I out ∧ Aft h1 xs p lv a' log' h s h'
def WantL (X : XTab) (xs : List (Int × Int)) (deep : Int) (a : Nat) (log : List Int) (out : Int) (a' : Nat) (log' : List Int) : Prop :=
  ∀ (h1 : Heap) (p : Nat) (lv : AVal) (h : Heap) (s : AVal) (t : T), Pl h1 xs p lv a log h s → t 0 = .ptr p 0 → t 1 = I deep →
    TellsL (fun _ _ => False) (fun m => L_precentorlaw1_player_want_1 Try.prog (acallX Try.prog X m) m) t h fun r h' => Aft h1 xs p lv a' log' h s h' ∧ ((r.1 = .exit 0 ∧ out = 0) ∨ (r.1 = .ret ∧ r.2 4 = I out))
def RunF (X : XTab) (xs : List (Int × Int)) (deep : Int) (a : Nat) (log : List Int) (out : Int) (a' : Nat) (log' : List Int) : Prop :=
  ∀ (h1 : Heap) (p : Nat) (lv : AVal) (h : Heap) (s : AVal), Pl h1 xs p lv a log h s → TellsV (fun v h' => OutV out v ∧ Aft h1 xs p lv a' log' h s h') (fun m => acallX Try.prog X m F_precentorlaw1_player_run [.ptr p 0, I deep] h) fun _ h' => out = 0 ∧ Aft h1 xs p lv a' log' h s h'
def RunL (X : XTab) (xs : List (Int × Int)) (deep : Int) (a : Nat) (log : List Int) (out : Int) (a' : Nat) (log' : List Int) : Prop :=
  ∀ (h1 : Heap) (p : Nat) (lv : AVal) (h : Heap) (s : AVal) (t : T) (pb db : Nat), Pl h1 xs p lv a log h s → t 2 = .ptr pb 0 → t 3 = .ptr db 0 → Ob h pb [.ptr p 0] → Ob h db [I deep] → pb ≠ p → db ≠ p →
    TellsL (fun v h' => OutV out v ∧ Aft h1 xs p lv a' log' h s h') (fun m => L_precentorlaw1_player_run_0 Try.prog (acallX Try.prog X m) m) t h fun r h' => (r.1 = .exit 0 ∨ r.1 = .ret) ∧ out = 0 ∧ Aft h1 xs p lv a' log' h s h'

theorem WantL.fn (hX : OnlyKnown X) {deep : Int} {out : Int} (k : WantL X xs deep a log out a' log') : WantF X xs deep a log out a' log' := by
  intro h1 p lv h s P
  refine R_precentorlaw1_player_want _ _ (hX _ _ rfl) ?_
  refine Tells.prot fun Q' hQ => ?_
  unfold S_precentorlaw1_player_want
  simp
  refine Tells.bind (TV.no (TL.go (k h1 p lv h s _ P (by simp) (by simp)))) ?_
  rintro ⟨ex, t⟩ g ⟨A, q⟩
  rcases q with ⟨rfl, rfl⟩ | ⟨rfl, q⟩
  · simp [J_precentorlaw1_player_want_0]
    exact Tells.ok (hQ _ _ ⟨rfl, A⟩)
  · simp only at q
    simp [q]
    exact Tells.ok (hQ _ _ ⟨rfl, A⟩)

theorem RunL.fn (hX : OnlyKnown X) {deep : Int} {out : Int} (k : RunL X xs deep a log out a' log') : RunF X xs deep a log out a' log' := by
  intro h1 p lv h s P
  refine RV_precentorlaw1_player_run _ _ (hX _ _ rfl) ?_
  refine TV.prot fun V' Q' hV hQ => ?_
  unfold S_precentorlaw1_player_run
  simp
  refine TV.box (by rfl) (by rfl) fun g1 pb o1 x1 l1 => ?_
  refine TV.box (by rfl) (by rfl) fun g2 db o2 x2 l2 => ?_
  have hp := P.o.lt
  have hs : ∀ b, b ∈ s.blks → b ∈ s.blks ∨ h.next ≤ b := fun b q => .inl q
  have e : Ext (p :: s.blks) h g2 := (x1.of (S := p :: s.blks)).quiet x2
  have h1n := x1.next
  refine TV.bind (TL.go (k h1 p lv g2 s _ pb db ((P.e x1).e x2) (by simp) (by simp) (o1.e x2) o2 (by omega) (by omega))) ?_ ?_
  · rintro v g ⟨q, A⟩
    exact hV _ _ ⟨q, Aft.thn e hs A⟩
  · rintro ⟨ex, t⟩ g ⟨hex, ho, A⟩
    simp only at hex
    rcases hex with rfl | rfl
    · simp
      exact TV.ok (hQ _ _ ⟨ho, Aft.thn e hs A⟩)
    · simp
      exact TV.ok (hQ _ _ ⟨ho, Aft.thn e hs A⟩)
end
end Go.Proofs.Ytepdlgcoehpnbaa
