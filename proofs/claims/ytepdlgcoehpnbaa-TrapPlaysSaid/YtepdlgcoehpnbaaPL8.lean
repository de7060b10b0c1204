/-
  Law TrapPlays: the walk, and what its argument is.
-/
import Derived.Test.YtepdlgcoehpnbaaPL7
import Derived.Test.YtepdlgcoehpnbaaABProg
import Derived.WalkKit
set_option linter.unusedVariables false
set_option linter.unusedSimpArgs false
namespace Go.Proofs.Ytepdlgcoehpnbaa
open Go.Ab

/-- Steps that are handed in. -/
def RawSt (h : Heap) (v : AVal) (xs : List (Int × Int)) : Prop := Sl stepR h v xs

theorem bld3 {h : Heap} {v : AVal} {xs : List (Int × Int)} (o : Sl stepR h v xs) : bldR [.nils, .int .i64 0, .nils] [(0, 1, v)] = some (.agg [v, .int .i64 0, .nils]) := by
  have h1 := o.cells
  have h2 := o.known
  simp [bldR, fillR, h1, h2, splice]

section
variable {X : XTab}

theorem trapPlays_ (hX : OnlyKnown X) (hk : X F_precentorlaw1_known [] = some (.bool true)) {h : Heap} {v : AVal} {xs : List (Int × Int)} (r : RawSt h v xs) : Tells (fun m => acallX Try.prog X m F_precentorlaw1_TrapPlays [v] h) fun a _ => a = .bool true := by
  refine R_precentorlaw1_TrapPlays _ (hX _ _ rfl) ?_
  refine Tells.prot fun Q' hQ => ?_
  unfold S_precentorlaw1_TrapPlays
  have r0 : Sl stepR h v xs := r
  simp [bld3 r0]
  refine Tells.box (by rfl) (by rfl) fun g1 p1 o1 x1 l1 => ?_
  refine Tells.new fun g2 ac oc x2 l2 => ?_
  refine Tells.st1 oc rfl rfl (by simp) fun g3 oc3 x3 => ?_
  refine Tells.box (by rfl) (by rfl) fun g4 p2 o2 x4 l4 => ?_
  have a1 := o1.lt
  have a2 := oc.lt
  have n2 := x2.next
  have n3 := x3.next
  have n4 := x4.next
  have oc4 : Ob g4 ac [.ptr p1 0] := by simpa using oc3.e x4
  have o14 : Ob g4 p1 [v, I 0, .nils] := ((o1.e x2).ext x3 (by simp; omega)).e x4
  have rv4 : Sl stepR g4 v xs := (((r0.ext x1).ext x2).ext x3).ext x4
  have P1 : Pl h xs p1 v 0 [] g4 .nils := ⟨o14, rv4, Gl.nil, by have := x1.next; omega⟩
  obtain ⟨out, a', log', B⟩ := both_ex (X := X) (xs := xs) hX 50 0 [] 0 (by omega) (by omega) (by simp) ⟨by omega, by omega⟩
  have B' := B.fn hX
  have b2 := B.len
  have b3 := B.top
  have b4 : log'.length ≤ 50 := by simp at b2; omega
  refine Tells.bind (thrown_tells hX B'.r P1 oc4) ?_
  rintro _ g5 ⟨rfl, s1, Q1, x5, z5⟩
  have e5 : Ext [p1] g4 g5 := by simpa [AVal.blks] using x5
  have o25 : Ob g5 p2 [v, I 0, .nils] := o2.ext e5 (by simp; omega)
  have oc5 : Ob g5 ac [.ptr p1 0] := oc4.ext e5 (by simp; omega)
  have P2 : Pl h xs p2 v 0 [] g5 .nils := ⟨o25, rv4.ext e5, Gl.nil, Q1.le⟩
  refine Tells.bind (B'.w h p2 v g5 .nils P2) ?_
  rintro _ g6 ⟨rfl, s2, Q2, x6, z6⟩
  have e6 : Ext [p2] g5 g6 := by simpa [AVal.blks] using x6
  have Q1' : Pl h xs p1 v a' log' g6 s1 := Q1.x o25 e6 (by omega)
  have oc6 : Ob g6 ac [.ptr p1 0] := oc5.ext e6 (by simp; omega)
  refine Tells.cbE (known_X hk _) ?_
  rintro _ g7 ⟨rfl, rfl⟩
  simp [Heap.cell, oc6.1, Q1'.o.1, Q2.o.1, Q1'.g.1.len, Q2.g.1.len]
  unfold J_precentorlaw1_TrapPlays_0
  try simp
  refine Tells.bind (Tells.loop (fun n t g => ∃ i : Nat, t 3 = .ptr ac 0 ∧ t 4 = .ptr p2 0 ∧ t 7 = I i ∧ i + n = log'.length ∧ g = g7) (Q := fun p g => p.1 = .exit 0 ∧ g = g7) ?_ log'.length _ _ ?_) ?_
  · rintro n t g ⟨i, t3, t4, t7, hi, rfl⟩
    refine Tells.prot fun Q2' hQ2 => ?_
    unfold L_precentorlaw1_TrapPlays_2
    simp [t3, t4, t7, Heap.cell, oc6.1, Q1'.o.1, Q1'.g.1.len]
    refine Tells.cb (fun hc => ?_) fun hc => ?_
    · have hlt : i < log'.length := by simpa using hc
      have hix : log'[i]? = some (log'[i]'hlt) := by simp [hlt]
      obtain ⟨b, q, Bk, q1, q2, q3⟩ := Q1'.g.1.atI hix
      obtain ⟨b', q', Bk', q1', q2', q3'⟩ := Q2.g.1.atI hix
      have hw : IntKind.i64.wrap ((i : Int) + 1) = ((i + 1 : Nat) : Int) := by rw [wrap_id (by omega) (by omega)]; omega
      simp [J_precentorlaw1_TrapPlays_3, t3, t4, t7, Heap.cell, oc6.1, Q1'.o.1, Q2.o.1, q1, q2, q3, q1', q2', q3', J_precentorlaw1_TrapPlays_4]
      exact Tells.ok (hQ2 _ _ (.inl ⟨rfl, n - 1, by omega, i + 1, by simp [t3], by simp [t4], by simp [hw], by omega, rfl⟩))
    · try simp
      exact Tells.ok (hQ2 _ _ (.inr ⟨by simp, rfl, rfl⟩))
  · exact ⟨0, by simp, by simp, by simp, by omega, rfl⟩
  · rintro ⟨ex, t⟩ g ⟨rfl, rfl⟩
    unfold lpK blkK
    simp [J_precentorlaw1_TrapPlays_1]
    exact Tells.ok (hQ _ _ rfl)
end

theorem reads_steps {P : Program} {t e i : TypeId} (ht : P.underlying t = some (.slice e)) (hc : P.cellsOf e = 2) (hf : ∃ fs, P.underlying e = some (.struct fs) ∧ ∀ k, k < ([(i, 0, 1), (i, 1, 1)] : List (TypeId × Nat × Nat)).length → ∃ f, fs[k]? = some f ∧ ([(i, 0, 1), (i, 1, 1)] : List (TypeId × Nat × Nat))[k]? = some (f.type, f.offset, P.cellsOf f.type))
    (hi : P.underlying i = some (.int .i64)) : Reads P t fun h a => ∃ xs, RawSt h a xs := by
  intro H enc W b0 base v d ps hval hd
  obtain ⟨xs, q1, _⟩ := reads_sliceS stepR (Good := fun _ => True) ht hc (fun {H} enc w hw0 base n cs y hl hy => by
    obtain ⟨_, hx⟩ := read_struct _ hf hy
    match cs, hl with
    | [a0, a1], _ =>
      obtain ⟨n0, y0, h0⟩ := hx 0 _ _ _ rfl
      obtain ⟨n1, y1, h1⟩ := hx 1 _ _ _ rfl
      obtain ⟨x0, e0, _⟩ := read_int hi (by simpa using h0) w.heap.size
      obtain ⟨x1, e1, _⟩ := read_int hi (by simpa using h1) w.heap.size
      exact ⟨⟨x0, x1⟩, by simp [ofVs, e0, e1, stepR], trivial⟩) enc W b0 base v d ps hval hd
  exact ⟨xs, q1⟩

theorem reads29 : Reads Try.prog 29 fun h a => ∃ xs, RawSt h a xs :=
  reads_steps (e := 45) (i := 3) Try.underlying29 (by kernel_rfl) ⟨_, Try.underlying45, fun k hk => match k, hk with
    | 0, _ => ⟨_, rfl, by kernel_rfl⟩
    | 1, _ => ⟨_, rfl, by kernel_rfl⟩⟩ Try.underlying3
end Go.Proofs.Ytepdlgcoehpnbaa
