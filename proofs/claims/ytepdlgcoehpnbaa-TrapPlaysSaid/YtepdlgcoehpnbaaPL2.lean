/-
  Law TrapPlays: one round, told plainly; the document's player takes it so.
-/
import Derived.Test.YtepdlgcoehpnbaaPL1
set_option linter.unusedVariables false
set_option linter.unusedSimpArgs false
namespace Go.Proofs.Ytepdlgcoehpnbaa
open Go.Ab

/-- Both players do the same: out tells how it ends. -/
structure Both (X : XTab) (xs : List (Int × Int)) (deep : Int) (a : Nat) (log : List Int) (out : Int) (a' : Nat) (log' : List Int) : Prop where
  w : WantF X xs deep a log out a' log'
  r : RunF X xs deep a log out a' log'
  ok : OutOk out
  le : a ≤ a'
  len : log'.length + a ≤ log.length + a'
  top : a' ≤ 50

inductive Rnd (X : XTab) (xs : List (Int × Int)) (deep : Int) (a : Nat) (log : List Int) : Int → Int → Option Int → Nat → List Int → Prop
  | mark {w n : Int} (hw : 0 ≤ w ∧ w ≤ 2) : Rnd X xs deep a log w n none (a + 1) (log ++ [n])
  | deep3 {n : Int} (hd : ¬ deep < 5) : Rnd X xs deep a log 3 n none (a + 1) log
  | run3 {n o : Int} {a1 : Nat} {l1 : List Int} (hd : deep < 5) (B : Both X xs (deep + 1) (a + 1) log o a1 l1) (h0 : 0 ≤ o) (ho : o ≤ 8) : Rnd X xs deep a log 3 n none a1 (l1 ++ [100 + o])
  | thr3 {n o : Int} {a1 : Nat} {l1 : List Int} (hd : deep < 5) (B : Both X xs (deep + 1) (a + 1) log o a1 l1) (ho : 50 ≤ o) : Rnd X xs deep a log 3 n (some o) a1 l1
  | deep4 {n : Int} (hd : ¬ deep < 5) : Rnd X xs deep a log 4 n none (a + 1) log
  | one4 {n o : Int} {a1 : Nat} {l1 : List Int} (hd : deep < 5) (B : Both X xs (deep + 1) (a + 1) log o a1 l1) (h0 : 1 ≤ o) (ho : o ≤ 8) : Rnd X xs deep a log 4 n none a1 (l1 ++ [200 + o])
  | thr4 {n o : Int} {a1 : Nat} {l1 : List Int} (hd : deep < 5) (B : Both X xs (deep + 1) (a + 1) log o a1 l1) (ho : 50 ≤ o) : Rnd X xs deep a log 4 n (some o) a1 l1
  | two4 {n o : Int} {a1 a2 : Nat} {l1 l2 : List Int} (hd : deep < 5) (B : Both X xs (deep + 1) (a + 1) log 0 a1 l1) (B2 : Both X xs (deep + 1) a1 l1 o a2 l2) (h0 : 1 ≤ o) (ho : o ≤ 8) : Rnd X xs deep a log 4 n none a2 (l2 ++ [210 + o])
  | all4 {n : Int} {a1 a2 : Nat} {l1 l2 : List Int} (hd : deep < 5) (B : Both X xs (deep + 1) (a + 1) log 0 a1 l1) (B2 : Both X xs (deep + 1) a1 l1 0 a2 l2) : Rnd X xs deep a log 4 n none a2 (l2 ++ [220])
  | thr4b {n o : Int} {a1 a2 : Nat} {l1 l2 : List Int} (hd : deep < 5) (B : Both X xs (deep + 1) (a + 1) log 0 a1 l1) (B2 : Both X xs (deep + 1) a1 l1 o a2 l2) (ho : 50 ≤ o) : Rnd X xs deep a log 4 n (some o) a2 l2
  | end5 {n : Int} : Rnd X xs deep a log 5 n (some 0) (a + 1) log
  | stop6 : Rnd X xs deep a log 6 0 none (a + 1) log
  | err6 {n : Int} (hn : 0 < n) : Rnd X xs deep a log 6 n (some n) (a + 1) log
  | need7 {n : Int} (hn : n.tmod 2 = 0) : Rnd X xs deep a log 7 n none (a + 1) log
  | err7 {n : Int} (hn : n.tmod 2 = 1) : Rnd X xs deep a log 7 n (some n) (a + 1) log
  | thr8 {n : Int} : Rnd X xs deep a log 8 n (some (50 + n)) (a + 1) log

section
variable {X : XTab} {h1 h : Heap} {xs : List (Int × Int)} {p a a' : Nat} {lv s : AVal} {log log' : List Int}

theorem Pl.blt (P : Pl h1 xs p lv a log h s) : ∀ b, b ∈ s.blks → b < h.next := fun b hb => (P.g.1.blk b hb).2

/-- What a round of the document's player leaves. -/
def WQ (h1 : Heap) (xs : List (Int × Int)) (p : Nat) (lv : AVal) (deep : Int) (h : Heap) (s : AVal) (r : Option Int) (a' : Nat) (log' : List Int) (rr : Ex × T) (g : Heap) : Prop :=
  Aft h1 xs p lv a' log' h s g ∧ match r with
    | none => rr.1 = .normal ∧ rr.2 0 = .ptr p 0 ∧ rr.2 1 = I deep
    | some o => rr.1 = .ret ∧ rr.2 4 = I o

theorem want_rnd (hX : OnlyKnown X) {deep w n : Int} {r : Option Int} {x : Int × Int} (hd : 0 ≤ deep ∧ deep ≤ 5) (hx : xs[a]? = some x) (ha : a < 50) (hl : log.length ≤ a) (hn : 0 ≤ n ∧ n ≤ 8) (e1 : pick x.1 9 = w) (e2 : pick x.2 9 = n) (R : Rnd X xs deep a log w n r a' log')
    {t : T} (P : Pl h1 xs p lv a log h s) (t0 : t 0 = .ptr p 0) (t1 : t 1 = I deep) : Tells (fun m => L_precentorlaw1_player_want_1 Try.prog (acallX Try.prog X m) m t h) (WQ h1 xs p lv deep h s r a' log') := by
  refine Tells.prot fun Q' hQ => ?_
  unfold L_precentorlaw1_player_want_1
  simp [t0]
  refine Tells.bind (more_tells hX P) ?_
  rintro _ g0 ⟨rfl, eg⟩
  rw [eg]
  have hxl : a < xs.length := (List.getElem?_eq_some_iff.1 hx).1
  simp [hxl, ha, J_precentorlaw1_player_want_2, t0, t1]
  refine Tells.bind (step_tells hX P hx ha) ?_
  rintro _ g ⟨rfl, x1, P1⟩
  rw [e1, e2]
  refine Tells.newSt (n := 2) (by rfl) (by rfl) (by rfl) (by rfl) fun g2 b ob x2 l2 => ?_
  have P2 := P1.e x2
  have xg : Ext [p] h g2 := x1.quiet x2
  have xgS : Ext (p :: s.blks) h g2 := xg.mono fun b q => by rw [List.mem_singleton.1 q]; simp
  have plain : Aft h1 xs p lv (a + 1) log h s g2 := ⟨s, P2, xgS, fun b q => .inl q⟩
  have lift : ∀ {a2 : Nat} {l2 : List Int} {g3 : Heap}, Aft h1 xs p lv a2 l2 g2 s g3 → Aft h1 xs p lv a2 l2 h s g3 := fun A => Aft.thn xgS (fun b q => .inl q) A
  have hwd : IntKind.i64.wrap (deep + 1) = deep + 1 := wrap_id (by omega) (by omega)
  simp [Heap.cell, ob.1]
  cases R with
  | mark hw =>
    have c : (w == 3) = false ∧ (w == 4) = false ∧ (w == 5) = false ∧ (w == 6) = false ∧ (w == 7) = false ∧ (w == 8) = false := by
      refine ⟨?_, ?_, ?_, ?_, ?_, ?_⟩ <;> (simp; omega)
    simp [c.1, c.2.1, c.2.2.1, c.2.2.2.1, c.2.2.2.2.1, c.2.2.2.2.2, P2.o.1]
    refine Tells.app1E (r := intR) (h0 := h1) (x := n) P2.g (by rfl) (by rfl) (by rfl) (by rfl) (by rfl) (by omega) (by decide) P2.le ?_
    intro s' g3 q3 x3 x4 z3
    try simp
    refine Tells.st1E (P2.o.ext x3 (P2.g.1.ob P2.o)) q3.1.cells q3.1.one (by simp) fun g4 o4 x5 => ?_
    try simp
    exact Tells.ok (hQ _ _ ⟨lift (P2.logged q3 x3 z3 (by simpa using o4) x5), by simp, by simp [t0], by simp [t1]⟩)
  | deep3 hd5 =>
    have : decide (deep < 5) = false := by simp; omega
    simp [this]
    exact Tells.ok (hQ _ _ ⟨plain, by simp, by simp [t0], by simp [t1]⟩)
  | deep4 hd5 =>
    have : decide (deep < 5) = false := by simp; omega
    simp [this]
    exact Tells.ok (hQ _ _ ⟨plain, by simp, by simp [t0], by simp [t1]⟩)
  | run3 hd5 B h0 ho =>
    rename_i o l1
    have : decide (deep < 5) = true := by simp; omega
    simp [this, hwd]
    refine Tells.bind (B.w h1 p lv g2 s P2) ?_
    rintro _ g3 ⟨rfl, s1, P3, x3, z3⟩
    have c : decide (o ≥ 50) = false := by simp; omega
    have hw : IntKind.i64.wrap (100 + o) = 100 + o := wrap_id (by omega) (by omega)
    simp [c, J_precentorlaw1_player_want_3, t0, Heap.cell, P3.o.1, hw]
    refine Tells.app1 (r := intR) (h0 := h1) (x := 100 + o) P3.g (by rfl) (by rfl) (by rfl) (by rfl) (by rfl) (by have := B.len; have := B.top; omega) (by decide) P3.le ?_
    intro s' g4 q4 x4 x4' z4
    try simp
    refine Tells.st1 (P3.o.ext x4 (P3.g.1.ob P3.o)) q4.1.cells q4.1.one (by simp) fun g5 o5 x5 => ?_
    try simp
    exact Tells.ok (hQ _ _ ⟨lift (Aft.thn x3 z3 (P3.logged q4 x4 z4 (by simpa using o5) x5)), by simp, by simp [t0], by simp [t1]⟩)
  | thr3 hd5 B ho =>
    rename_i o
    have : decide (deep < 5) = true := by simp; omega
    simp [this, hwd]
    refine Tells.bind (B.w h1 p lv g2 s P2) ?_
    rintro _ g3 ⟨rfl, A⟩
    have c : decide (o ≥ 50) = true := by simp; omega
    simp [c]
    exact Tells.ok (hQ _ _ ⟨lift A, by simp, by simp⟩)
  | one4 hd5 B h0 ho =>
    rename_i o l1
    have : decide (deep < 5) = true := by simp; omega
    simp [this, hwd]
    refine Tells.bind (B.w h1 p lv g2 s P2) ?_
    rintro _ g3 ⟨rfl, s1, P3, x3, z3⟩
    have c : decide (o ≥ 50) = false := by simp; omega
    have c0 : (o == 0) = false := by simp; omega
    have hw : IntKind.i64.wrap (200 + o) = 200 + o := wrap_id (by omega) (by omega)
    have hw0 : IntKind.i64.wrap (200 : Int) = 200 := wrap_id (by omega) (by omega)
    have hw1 : IntKind.i64.wrap (0 : Int) = 0 := wrap_id (by omega) (by omega)
    simp [c, c0, J_precentorlaw1_player_want_4, J_precentorlaw1_player_want_5, J_precentorlaw1_player_want_6, t0, Heap.cell, P3.o.1, hw, hw0, hw1]
    refine Tells.app1 (r := intR) (h0 := h1) (x := 200 + o) P3.g (by rfl) (by rfl) (by rfl) (by rfl) (by rfl) (by have := B.len; have := B.top; omega) (by decide) P3.le ?_
    intro s' g4 q4 x4 x4' z4
    try simp
    refine Tells.st1 (P3.o.ext x4 (P3.g.1.ob P3.o)) q4.1.cells q4.1.one (by simp) fun g5 o5 x5 => ?_
    try simp
    exact Tells.ok (hQ _ _ ⟨lift (Aft.thn x3 z3 (P3.logged q4 x4 z4 (by simpa using o5) x5)), by simp, by simp [t0], by simp [t1]⟩)
  | thr4 hd5 B ho =>
    rename_i o
    have : decide (deep < 5) = true := by simp; omega
    simp [this, hwd]
    refine Tells.bind (B.w h1 p lv g2 s P2) ?_
    rintro _ g3 ⟨rfl, A⟩
    have c : decide (o ≥ 50) = true := by simp; omega
    have c0 : (o == 0) = false := by simp; omega
    simp [c, c0, J_precentorlaw1_player_want_4, J_precentorlaw1_player_want_5]
    exact Tells.ok (hQ _ _ ⟨lift A, by simp, by simp⟩)
  | two4 hd5 B B2 h0 ho =>
    rename_i o a1 l1 l2
    have : decide (deep < 5) = true := by simp; omega
    simp [this, hwd]
    refine Tells.bind (B.w h1 p lv g2 s P2) ?_
    rintro _ g3 ⟨rfl, s1, P3, x3, z3⟩
    simp [t0, t1, hwd]
    refine Tells.bind (B2.w h1 p lv g3 s1 P3) ?_
    rintro _ g4 ⟨rfl, A2⟩
    obtain ⟨s2, P4, x4, z4⟩ := Aft.thn x3 z3 A2
    have c : decide (o ≥ 50) = false := by simp; omega
    have c0 : (o == 0) = false := by simp; omega
    have hw : IntKind.i64.wrap (210 + o) = 210 + o := wrap_id (by omega) (by omega)
    have hw0 : IntKind.i64.wrap (210 : Int) = 210 := wrap_id (by omega) (by omega)
    have hw1 : IntKind.i64.wrap (10 : Int) = 10 := wrap_id (by omega) (by omega)
    simp [c, c0, J_precentorlaw1_player_want_4, J_precentorlaw1_player_want_5, J_precentorlaw1_player_want_6, t0, Heap.cell, P4.o.1, hw, hw0, hw1]
    refine Tells.app1 (r := intR) (h0 := h1) (x := 210 + o) P4.g (by rfl) (by rfl) (by rfl) (by rfl) (by rfl) (by have := B2.len; have := B2.top; have := B.len; have := B.top; omega) (by decide) P4.le ?_
    intro s' g5 q5 x5 x5' z5
    try simp
    refine Tells.st1 (P4.o.ext x5 (P4.g.1.ob P4.o)) q5.1.cells q5.1.one (by simp) fun g6 o6 x6 => ?_
    try simp
    exact Tells.ok (hQ _ _ ⟨lift (Aft.thn x4 z4 (P4.logged q5 x5 z5 (by simpa using o6) x6)), by simp, by simp [t0], by simp [t1]⟩)
  | all4 hd5 B B2 =>
    rename_i a1 l1 l2
    have : decide (deep < 5) = true := by simp; omega
    simp [this, hwd]
    refine Tells.bind (B.w h1 p lv g2 s P2) ?_
    rintro _ g3 ⟨rfl, s1, P3, x3, z3⟩
    simp [t0, t1, hwd]
    refine Tells.bind (B2.w h1 p lv g3 s1 P3) ?_
    rintro _ g4 ⟨rfl, A2⟩
    obtain ⟨s2, P4, x4, z4⟩ := Aft.thn x3 z3 A2
    have hw0 : IntKind.i64.wrap (220 : Int) = 220 := wrap_id (by omega) (by omega)
    have hw1 : IntKind.i64.wrap (20 : Int) = 20 := wrap_id (by omega) (by omega)
    simp [J_precentorlaw1_player_want_4, J_precentorlaw1_player_want_5, J_precentorlaw1_player_want_6, t0, Heap.cell, P4.o.1, hw0, hw1]
    refine Tells.app1 (r := intR) (h0 := h1) (x := 220) P4.g (by rfl) (by rfl) (by rfl) (by rfl) (by rfl) (by have := B2.len; have := B2.top; have := B.len; have := B.top; omega) (by decide) P4.le ?_
    intro s' g5 q5 x5 x5' z5
    try simp
    refine Tells.st1 (P4.o.ext x5 (P4.g.1.ob P4.o)) q5.1.cells q5.1.one (by simp) fun g6 o6 x6 => ?_
    try simp
    exact Tells.ok (hQ _ _ ⟨lift (Aft.thn x4 z4 (P4.logged q5 x5 z5 (by simpa using o6) x6)), by simp, by simp [t0], by simp [t1]⟩)
  | thr4b hd5 B B2 ho =>
    rename_i o a1 l1
    have : decide (deep < 5) = true := by simp; omega
    simp [this, hwd]
    refine Tells.bind (B.w h1 p lv g2 s P2) ?_
    rintro _ g3 ⟨rfl, s1, P3, x3, z3⟩
    simp [t0, t1, hwd]
    refine Tells.bind (B2.w h1 p lv g3 s1 P3) ?_
    rintro _ g4 ⟨rfl, A2⟩
    have c : decide (o ≥ 50) = true := by simp; omega
    have c0 : (o == 0) = false := by simp; omega
    simp [c, c0, J_precentorlaw1_player_want_4, J_precentorlaw1_player_want_5]
    exact Tells.ok (hQ _ _ ⟨lift (Aft.thn x3 z3 A2), by simp, by simp⟩)
  | end5 =>
    simp
    exact Tells.ok (hQ _ _ ⟨plain, by simp, by simp⟩)
  | stop6 =>
    simp [Heap.cell, ob.1]
    exact Tells.ok (hQ _ _ ⟨plain, by simp, by simp [t0], by simp [t1]⟩)
  | err6 h0 =>
    simp [Heap.cell, ob.1, h0]
    exact Tells.ok (hQ _ _ ⟨plain, by simp, by simp⟩)
  | need7 h0 =>
    simp [Heap.cell, ob.1, aBin_rem, h0]
    exact Tells.ok (hQ _ _ ⟨plain, by simp, by simp [t0], by simp [t1]⟩)
  | err7 h0 =>
    simp [Heap.cell, ob.1, aBin_rem, h0]
    exact Tells.ok (hQ _ _ ⟨plain, by simp, by simp⟩)
  | thr8 =>
    have hw : IntKind.i64.wrap (50 + n) = 50 + n := wrap_id (by omega) (by omega)
    simp [Heap.cell, ob.1, hw]
    exact Tells.ok (hQ _ _ ⟨plain, by simp, by simp⟩)
end
end Go.Proofs.Ytepdlgcoehpnbaa
