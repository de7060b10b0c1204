/-
  Law TrapPlays: the program's player: its functions within, Run and Each of them.
-/
import Derived.Test.YtepdlgcoehpnbaaPL2
set_option linter.unusedVariables false
set_option linter.unusedSimpArgs false
namespace Go.Proofs.Ytepdlgcoehpnbaa
open Go.Ab

section
variable {X : XTab} {h1 h : Heap} {xs : List (Int × Int)} {p a a1 pb db : Nat} {lv s : AVal} {log l1 : List Int} {deep o : Int}

theorem clos (hX : OnlyKnown X) {f : FuncId} (hf : f = 36 ∨ f = 37 ∨ f = 38) (hd : 0 ≤ deep ∧ deep ≤ 5) (B : RunF X xs (deep + 1) a log o a1 l1) (P : Pl h1 xs p lv a log h s) (opb : Ob h pb [.ptr p 0]) (odb : Ob h db [I deep]) :
    TellsV (fun v h' => OutV o v ∧ Aft h1 xs p lv a1 l1 h s h') (fun m => acallX Try.prog X m f [.ptr pb 0, .ptr db 0] h) fun _ h' => o = 0 ∧ Aft h1 xs p lv a1 l1 h s h' := by
  have hwd : IntKind.i64.wrap (deep + 1) = deep + 1 := wrap_id (by omega) (by omega)
  rcases hf with rfl | rfl | rfl
  · refine RV_precentorlaw1_player_run_1 _ _ (hX _ _ rfl) ?_
    refine TV.prot fun V' Q' hV hQ => ?_
    unfold S_precentorlaw1_player_run_1
    simp [Heap.cell, opb.1, odb.1, hwd]
    refine TV.bind (B h1 p lv h s P) (fun v g q => hV _ _ q) ?_
    rintro _ g q
    exact TV.ok (hQ _ _ q)
  · refine RV_precentorlaw1_player_run_2 _ _ (hX _ _ rfl) ?_
    refine TV.prot fun V' Q' hV hQ => ?_
    unfold S_precentorlaw1_player_run_2
    simp [Heap.cell, opb.1, odb.1, hwd]
    refine TV.bind (B h1 p lv h s P) (fun v g q => hV _ _ q) ?_
    rintro _ g q
    exact TV.ok (hQ _ _ q)
  · refine RV_precentorlaw1_player_run_3 _ _ (hX _ _ rfl) ?_
    refine TV.prot fun V' Q' hV hQ => ?_
    unfold S_precentorlaw1_player_run_3
    simp [Heap.cell, opb.1, odb.1, hwd]
    refine TV.bind (B h1 p lv h s P) (fun v g q => hV _ _ q) ?_
    rintro _ g q
    exact TV.ok (hQ _ _ q)

/-- trap.Run of one of them. -/
theorem runf (hX : OnlyKnown X) {f : FuncId} (hf : f = 36 ∨ f = 37 ∨ f = 38) (hd : 0 ≤ deep ∧ deep ≤ 5) (B : RunF X xs (deep + 1) a log o a1 l1) (P : Pl h1 xs p lv a log h s) (opb : Ob h pb [.ptr p 0]) (odb : Ob h db [I deep]) :
    TellsV (fun v h' => 50 ≤ o ∧ OutV o v ∧ Aft h1 xs p lv a1 l1 h s h') (fun m => acallX Try.prog X m F_trap_Run [.fn f [] [.ptr pb 0, .ptr db 0]] h) fun r h' => o ≤ 8 ∧ r = I o ∧ Aft h1 xs p lv a1 l1 h s h' := by
  have hg : enters Try.prog f = true := by rcases hf with rfl | rfl | rfl <;> kernel_rfl
  have hS : ∀ x ∈ p :: s.blks, x < h.next := fun x hx => by
    rcases List.mem_cons.1 hx with q | q
    · rw [q]; exact P.o.lt
    · exact P.blt x q
  have hn : h.next ∉ p :: s.blks := fun q => Nat.lt_irrefl _ (hS _ q)
  have key := run_tellsO hX (g := f) (a := []) (b := [.ptr pb 0, .ptr db 0]) hg (h := h) (S := p :: s.blks) hS
    (V := fun v h2 => OutV o v ∧ Ob h2 h.next [.int .i64 0] ∧ ∃ s', Pl h1 xs p lv a1 l1 h2 s' ∧ ∀ b, b ∈ s'.blks → b ∈ s.blks ∨ h.next ≤ b) (Q := fun h2 => o = 0 ∧ Ob h2 h.next [.int .i64 0] ∧ ∃ s', Pl h1 xs p lv a1 l1 h2 s' ∧ ∀ b, b ∈ s'.blks → b ∈ s.blks ∨ h.next ≤ b)
    (fun g x n og => by
      refine TV.mono (clos hX hf hd B (P.e x) (opb.e x) (odb.e x)) ?_ ?_
      · rintro _ g2 ⟨ho, s', P', x', z'⟩
        exact ⟨x', ho, og.ext x' hn, s', P', fun b hb => (z' b hb).imp_right fun q => Nat.le_trans x.next q⟩
      · rintro v g2 ⟨ho, s', P', x', z'⟩
        exact ⟨x', ho, og.ext x' hn, s', P', fun b hb => (z' b hb).imp_right fun q => Nat.le_trans x.next q⟩)
    (fun v h2 q => by
      rcases q.1 with ⟨_, _, e⟩ | ⟨n, _, _, _, e⟩
      · exact .inl ⟨_, e⟩
      · exact .inr (.inl ⟨_, e⟩))
  refine TV.mono key ?_ ?_
  · rintro r h3 ⟨x, h2, x2, q⟩
    have fin : Ob h2 h.next [.int .i64 0] → (∃ s', Pl h1 xs p lv a1 l1 h2 s' ∧ ∀ b, b ∈ s'.blks → b ∈ s.blks ∨ h.next ≤ b) → Aft h1 xs p lv a1 l1 h s h3 := by
      rintro og ⟨s', P', z'⟩
      exact ⟨s', P'.x og x2 (by have := P.o.lt; omega), x, z'⟩
    rcases q with ⟨rfl, ho, og, k⟩ | ⟨e, rfl, ho, og, k⟩
    · exact ⟨by omega, by rw [ho], fin og k⟩
    · rcases ho with ⟨b1, b2, e'⟩ | ⟨n, _, _, _, e'⟩
      · injection e' with _ e'
        injection e' with _ e'
        exact ⟨b2, by rw [e'], fin og k⟩
      · injection e' with e'
        exact absurd e' (by decide)
  · rintro v h3 ⟨hne, ⟨ho, og, s', P', z'⟩, x⟩
    refine ⟨?_, ho, s', P', x, z'⟩
    rcases ho with ⟨_, _, e⟩ | ⟨n, n0, _, e, _⟩
    · exact absurd e (hne _)
    · omega
end
end Go.Proofs.Ytepdlgcoehpnbaa
