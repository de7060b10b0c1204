/-
  Law TrapPlays: the player.
-/
import Derived.Test.YtepdlgcoehpnbaaRun1
import Derived.Test.YtepdlgcoehpnbaaKnown0
import Derived.Test.YtepdlgcoehpnbaaArg0
set_option linter.unusedVariables false
set_option linter.unusedSimpArgs false
namespace Go.Proofs.Ytepdlgcoehpnbaa
open Go.Ab

def stepR : Rp (Int × Int) := ⟨2, by decide, fun _ c x => c = [I x.1, I x.2], fun h => by rw [h]; rfl, fun h => by rw [h]; rfl, fun h _ => h⟩

/-- A player: the steps, how far, what was marked. -/
structure Pl (h1 : Heap) (xs : List (Int × Int)) (p : Nat) (lv : AVal) (a : Nat) (log : List Int) (h : Heap) (s : AVal) : Prop where
  o : Ob h p [lv, I a, s]
  l : Sl stepR h lv xs
  g : Gl intR h1 h s log
  le : h1.next ≤ h.next

section
variable {X : XTab} {h1 h h' : Heap} {xs : List (Int × Int)} {p a : Nat} {lv s : AVal} {log : List Int}

theorem Pl.e (P : Pl h1 xs p lv a log h s) (e : Ext [] h h') : Pl h1 xs p lv a log h' s := ⟨P.o.e e, P.l.ext e, P.g.e e, Nat.le_trans P.le e.next⟩
/-- Something else is written. -/
theorem Pl.x {b : Nat} {cs : List AVal} (P : Pl h1 xs p lv a log h s) (ob : Ob h b cs) (e : Ext [b] h h') (hb : b ≠ p) : Pl h1 xs p lv a log h' s :=
  ⟨P.o.ext e (by simpa using fun q => hb q.symm), P.l.ext e, P.g.ext e fun c hc q => by
    rw [List.mem_singleton.1 q] at hc
    exact P.g.1.ob ob hc, Nat.le_trans P.le e.next⟩

theorem more_tells (hX : OnlyKnown X) (P : Pl h1 xs p lv a log h s) : Tells (fun m => acallX Try.prog X m F_precentorlaw1_player_more [.ptr p 0] h) fun r h' => r = .bool (decide (a < xs.length) && decide (a < 50)) ∧ h' = h := by
  refine R_precentorlaw1_player_more _ (hX _ _ rfl) ?_
  refine Tells.prot fun Q' hQ => ?_
  unfold S_precentorlaw1_player_more
  simp [Heap.cell, P.o.1, P.l.len]
  by_cases k : a < xs.length
  · simp [k, P.o.1]
    refine Tells.ok (hQ _ _ ⟨?_, rfl⟩)
    by_cases k2 : a < 50
    · have : ((a : Int) < 50) := by omega
      simp [k2, this, k]
    · have : ¬ ((a : Int) < 50) := by omega
      simp [k2, this]
  · simp [k]
    exact Tells.ok (hQ _ _ ⟨by simp [k], rfl⟩)

theorem step_tells (hX : OnlyKnown X) (P : Pl h1 xs p lv a log h s) {x : Int × Int} (hx : xs[a]? = some x) (ha : a < 50) :
    Tells (fun m => acallX Try.prog X m F_precentorlaw1_player_step [.ptr p 0] h) fun r h' => r = .agg [I (pick x.1 9), I (pick x.2 9)] ∧ Ext [p] h h' ∧ Pl h1 xs p lv (a + 1) log h' s := by
  refine R_precentorlaw1_player_step _ (hX _ _ rfl) ?_
  refine Tells.prot fun Q' hQ => ?_
  unfold S_precentorlaw1_player_step
  simp [C_precentorlaw1_player_step_0]
  refine Tells.new fun g1 v0 o0 x1 l1 => ?_
  have P1 := P.e x1
  obtain ⟨b, q, B, c, q1, q2, q3⟩ := P1.l.at (n := 2) rfl (i := (a : Int)) (by omega) (by simpa using hx)
  obtain rfl : c = [I x.1, I x.2] := q3
  simp [Heap.cell, P1.o.1, q1, q2.lda (n := 2) rfl]
  refine Tells.newV fun g2 v1 o1 x2 l2 => ?_
  refine Tells.stNE (n := 2) o1 (by rfl) (by rfl) (by rfl) (by rfl) fun g3 o2 x3 => ?_
  have hp := P1.o.lt
  have P3 := (P1.e x2).x o1 x3 (by omega)
  have hw : IntKind.i64.wrap ((a : Int) + 1) = ((a + 1 : Nat) : Int) := by rw [wrap_id (by omega) (by omega)]; omega
  simp [Heap.cell, P3.o.1, hw]
  refine Tells.st1 P3.o rfl rfl (by simp) fun g4 o4 x4 => ?_
  have o5 := o2.ext x4 (by simp; omega)
  simp [Heap.cell, o5.1]
  refine Tells.cbE (Pick hX _ 9 (by constructor <;> omega) _) ?_
  rintro _ g ⟨rfl, rfl⟩
  simp [Heap.cell, o5.1]
  refine Tells.cbE (Pick hX _ 9 (by constructor <;> omega) _) ?_
  rintro _ g ⟨rfl, rfl⟩
  rw [show bldR [.int .i64 0, .int .i64 0] [(0, 1, I (pick x.1 9)), (1, 1, I (pick x.2 9))] = some (.agg [I (pick x.1 9), I (pick x.2 9)]) from rfl]
  simp only [of_some, obv_val]
  have hp0 := P.o.lt
  have h0 := o0.lt
  have ov : Ob g v0 [.int .i64 0, .int .i64 0] := ((o0.e x2).ext x3 (by simp; omega)).ext x4 (by simp; omega)
  refine Tells.stNE (n := 2) ov (by rfl) (by rfl) (by rfl) (by rfl) fun g5 o6 x6 => ?_
  simp [o6.1]
  have P4 : Pl h1 xs p lv (a + 1) log g s := ⟨by simpa using o4, P3.l.ext x4, P3.g.ext x4 fun c hc q => by
    rw [List.mem_singleton.1 q] at hc
    exact P3.g.1.ob P3.o hc, Nat.le_trans P3.le x4.next⟩
  refine Tells.ok (hQ _ _ ⟨rfl, ?_, P4.x ov x6 (by omega)⟩)
  have e1 : Ext [p] h g1 := x1.of
  have e2 : Ext [p] h g2 := e1.quiet x2
  have e3 : Ext [p] h g3 := e2.then x3 fun b hb => .inr (by rw [List.mem_singleton.1 hb]; have := x1.next; omega)
  have e4 : Ext [p] h g := e3.trans x4
  exact e4.then x6 fun b hb => .inr (by rw [List.mem_singleton.1 hb]; omega)
end
end Go.Proofs.Ytepdlgcoehpnbaa
