/-
  Law TrapPlays: one round of the program's player.
-/
import Derived.Test.YtepdlgcoehpnbaaPL4
set_option linter.unusedVariables false
set_option linter.unusedSimpArgs false
namespace Go.Proofs.Ytepdlgcoehpnbaa
open Go.Ab

section
variable {X : XTab} {h1 h : Heap} {xs : List (Int × Int)} {p a a' pb db : Nat} {lv s : AVal} {log log' : List Int}

theorem need_tells (hX : OnlyKnown X) (c : Bool) (e : Int) (h : Heap) : TellsV (fun v h' => v = .iface 22 (I e) ∧ e ≠ 0 ∧ c = false ∧ h' = h) (fun m => acallX Try.prog X m F_trap_Need [.bool c, I e] h) fun _ h' => (c = true ∨ e = 0) ∧ h' = h := by
  refine RV_trap_Need _ _ (hX _ _ rfl) ?_
  refine TV.prot fun V' Q' hV hQ => ?_
  unfold S_trap_Need
  simp
  cases c with
  | true =>
    simp
    exact TV.ok (hQ _ _ ⟨.inl rfl, rfl⟩)
  | false =>
    simp
    refine TV.bind (stop_tells hX e h) (fun v g q => hV _ _ ⟨q.1, q.2.1, rfl, q.2.2⟩) ?_
    rintro _ g ⟨q, rfl⟩
    exact TV.ok (hQ _ _ ⟨.inr q, rfl⟩)

theorem throw_tells (hX : OnlyKnown X) {b : Nat} {w n : Int} (ob : Ob h b [I w, I n]) {Q : AVal → Heap → Prop} : TellsV (fun v h' => v = .iface 3 (I n) ∧ h' = h) (fun m => acallX Try.prog X m 39 [.ptr b 0] h) Q := by
  refine RV_precentorlaw1_player_run_4 _ (hX _ _ rfl) ?_
  refine TV.prot fun V' Q' hV hQ => ?_
  unfold S_precentorlaw1_player_run_4
  simp [Heap.cell, ob.1, pncR]
  exact TV.pan (hV _ _ ⟨rfl, rfl⟩)

theorem run_rnd (hX : OnlyKnown X) {deep w n : Int} {r : Option Int} {x : Int × Int} (hd : 0 ≤ deep ∧ deep ≤ 5) (hx : xs[a]? = some x) (ha : a < 50) (hl : log.length ≤ a) (hn : 0 ≤ n ∧ n ≤ 8) (e1 : pick x.1 9 = w) (e2 : pick x.2 9 = n) (R : Rnd X xs deep a log w n r a' log')
    {t : T} (P : Pl h1 xs p lv a log h s) (t2 : t 2 = .ptr pb 0) (t3 : t 3 = .ptr db 0) (opb : Ob h pb [.ptr p 0]) (odb : Ob h db [I deep]) (hpb : pb ≠ p) (hdb : db ≠ p) :
    TellsV (fun v g => (∃ o, r = some o ∧ OutV o v) ∧ Aft h1 xs p lv a' log' h s g) (fun m => L_precentorlaw1_player_run_0 Try.prog (acallX Try.prog X m) m t h) fun rr g => Aft h1 xs p lv a' log' h s g ∧ match r with
      | none => rr.1 = .normal ∧ rr.2 2 = .ptr pb 0 ∧ rr.2 3 = .ptr db 0
      | some o => o = 0 ∧ rr.1 = .ret := by
  refine TV.prot fun V' Q' hV hQ => ?_
  unfold L_precentorlaw1_player_run_0
  simp [t2, Heap.cell, opb.1]
  refine TV.bindT (more_tells hX P) ?_
  rintro _ g0 ⟨rfl, eg⟩
  rw [eg]
  have hxl : a < xs.length := (List.getElem?_eq_some_iff.1 hx).1
  simp [hxl, ha, J_precentorlaw1_player_run_1, t2, t3, Heap.cell, opb.1]
  refine TV.bindT (step_tells hX P hx ha) ?_
  rintro _ g ⟨rfl, x1, P1⟩
  rw [e1, e2]
  refine TV.newSt (n := 2) (by rfl) (by rfl) (by rfl) (by rfl) fun g2 b ob x2 l2 => ?_
  have P2 := P1.e x2
  have xg : Ext [p] h g2 := x1.quiet x2
  have xgS : Ext (p :: s.blks) h g2 := xg.mono fun b q => by rw [List.mem_singleton.1 q]; simp
  have plain : Aft h1 xs p lv (a + 1) log h s g2 := ⟨s, P2, xgS, fun b q => .inl q⟩
  have lift : ∀ {a2 : Nat} {l2 : List Int} {g3 : Heap}, Aft h1 xs p lv a2 l2 g2 s g3 → Aft h1 xs p lv a2 l2 h s g3 := fun A => Aft.thn xgS (fun b q => .inl q) A
  have opb2 : Ob g2 pb [.ptr p 0] := opb.ext xg (by simpa using hpb)
  have odb2 : Ob g2 db [I deep] := odb.ext xg (by simpa using hdb)
  have off : ∀ {b : Nat} {cs : List AVal}, Ob g2 b cs → b ≠ p → b ∉ p :: s.blks := fun ob hb q => by
    rcases List.mem_cons.1 q with q | q
    · exact hb q
    · exact P2.g.1.ob ob q
  simp [Heap.cell, ob.1]
  cases R with
  | mark hw =>
    have c : (w == 3) = false ∧ (w == 4) = false ∧ (w == 5) = false ∧ (w == 6) = false ∧ (w == 7) = false ∧ (w == 8) = false := by
      refine ⟨?_, ?_, ?_, ?_, ?_, ?_⟩ <;> (simp; omega)
    simp [c.1, c.2.1, c.2.2.1, c.2.2.2.1, c.2.2.2.2.1, c.2.2.2.2.2, opb2.1, P2.o.1]
    refine TV.app1E (r := intR) (h0 := h1) (x := n) P2.g (by rfl) (by rfl) (by rfl) (by rfl) (by rfl) (by omega) (by decide) P2.le ?_
    intro s' g3 q3 x3 x4 z3
    have opb3 := opb2.ext x3 (P2.g.1.ob opb2)
    have hk := opb3.kill (id := g2.next) (by have := opb2.ge; have := x3.n0; have := n0_le g2; omega) (by have := opb2.lt; omega)
    simp [hk]
    refine TV.st1E (P2.o.ext x3 (P2.g.1.ob P2.o)) q3.1.cells q3.1.one (by simp) fun g4 o4 x5 => ?_
    try simp
    exact TV.ok (hQ _ _ ⟨lift (P2.logged q3 x3 z3 (by simpa using o4) x5), by simp, by simp [t2], by simp [t3]⟩)
  | deep3 hd5 =>
    have : decide (deep < 5) = false := by simp; omega
    simp [odb2.1, this]
    exact TV.ok (hQ _ _ ⟨plain, by simp, by simp [t2], by simp [t3]⟩)
  | deep4 hd5 =>
    have : decide (deep < 5) = false := by simp; omega
    simp [odb2.1, this]
    exact TV.ok (hQ _ _ ⟨plain, by simp, by simp [t2], by simp [t3]⟩)
  | end5 =>
    simp
    exact TV.ok (hQ _ _ ⟨plain, by simp⟩)
  | stop6 =>
    simp [Heap.cell, ob.1]
    refine TV.bind (stop_tells hX 0 g2) (fun v g q => absurd rfl q.2.1) ?_
    rintro _ g ⟨_, rfl⟩
    try simp
    exact TV.ok (hQ _ _ ⟨plain, by simp, by simp [t2], by simp [t3]⟩)
  | err6 h0 =>
    simp [Heap.cell, ob.1]
    refine TV.bind (stop_tells hX n g2) ?_ ?_
    · rintro v g ⟨rfl, _, rfl⟩
      exact hV _ _ ⟨⟨n, rfl, .inl ⟨by omega, by omega, rfl⟩⟩, plain⟩
    · rintro _ g ⟨q, rfl⟩
      omega
  | need7 h0 =>
    simp [Heap.cell, ob.1, aBin_rem, h0]
    refine TV.bind (need_tells hX true n g2) (fun v g q => by cases q.2.2.1) ?_
    rintro _ g ⟨_, rfl⟩
    try simp
    exact TV.ok (hQ _ _ ⟨plain, by simp, by simp [t2], by simp [t3]⟩)
  | err7 h0 =>
    simp [Heap.cell, ob.1, aBin_rem, h0]
    refine TV.bind (need_tells hX false n g2) ?_ ?_
    · rintro v g ⟨rfl, hne, _, rfl⟩
      exact hV _ _ ⟨⟨n, rfl, .inl ⟨by omega, by omega, rfl⟩⟩, plain⟩
    · rintro _ g ⟨q, rfl⟩
      rcases q with q | q
      · cases q
      · subst q
        exact absurd h0 (by decide)
  | thr8 =>
    simp [Heap.cell, ob.1]
    rw [show clvR Try.prog (.fn F_precentorlaw1_player_run_4 [] [.ptr b 0]) [] g2 = .call 39 [.ptr b 0] g2 from by kernel_rfl]
    simp only [arb_call]
    refine TV.bind (throw_tells hX ob (Q := fun _ _ => False)) ?_ fun _ _ => False.elim
    rintro v g ⟨rfl, rfl⟩
    exact hV _ _ ⟨⟨50 + n, rfl, .inr ⟨n, hn.1, hn.2, rfl, rfl⟩⟩, plain⟩
  | run3 hd5 B h0 ho =>
    rename_i o l1
    have : decide (deep < 5) = true := by simp; omega
    simp [odb2.1, this, t2, t3]
    refine TV.bind (runf hX (.inl rfl) hd B.r P2 opb2 odb2) (fun v g q => by omega) ?_
    rintro _ g3 ⟨_, rfl, s1, P3, x3, z3⟩
    have opb3 := opb2.ext x3 (off opb2 hpb)
    have hw : IntKind.i64.wrap (100 + o) = 100 + o := wrap_id (by omega) (by omega)
    simp [Heap.cell, opb3.1, P3.o.1, hw]
    refine TV.app1E (r := intR) (h0 := h1) (x := 100 + o) P3.g (by rfl) (by rfl) (by rfl) (by rfl) (by rfl) (by have := B.len; have := B.top; omega) (by decide) P3.le ?_
    intro s' g4 q4 x4 x4' z4
    have opb4 := opb3.ext x4 (P3.g.1.ob opb3)
    have hk := opb4.kill (id := g3.next) (by have := opb3.ge; have := x4.n0; have := n0_le g3; omega) (by have := opb3.lt; omega)
    simp [hk]
    refine TV.st1E (P3.o.ext x4 (P3.g.1.ob P3.o)) q4.1.cells q4.1.one (by simp) fun g5 o5 x5 => ?_
    try simp
    exact TV.ok (hQ _ _ ⟨lift (Aft.thn x3 z3 (P3.logged q4 x4 z4 (by simpa using o5) x5)), by simp, by simp [t2], by simp [t3]⟩)
  | thr3 hd5 B ho =>
    rename_i o
    have : decide (deep < 5) = true := by simp; omega
    simp [odb2.1, this, t2, t3]
    refine TV.bind (runf hX (.inl rfl) hd B.r P2 opb2 odb2) ?_ ?_
    · rintro v g3 ⟨_, hv, A⟩
      exact hV _ _ ⟨⟨o, rfl, hv⟩, lift A⟩
    · rintro _ g3 ⟨h8, _⟩
      omega
  | one4 hd5 B h0 ho =>
    rename_i o l1
    have : decide (deep < 5) = true := by simp; omega
    simp [odb2.1, this, t2, t3]
    refine TV.lit (r := clR pb db) (xs := [37, 38]) (css := [[.fn 37 [] [.ptr pb 0, .ptr db 0]], [.fn 38 [] [.ptr pb 0, .ptr db 0]]]) (by rfl) ⟨rfl, rfl, trivial⟩ (by rfl) (by rfl) (by rfl) fun v g3 sl x3 bl => ?_
    have opb3 := opb2.e x3
    have odb3 := odb2.e x3
    have P3 := P2.e x3
    have lift3 : ∀ {a2 : Nat} {l2 : List Int} {g4 : Heap}, Aft h1 xs p lv a2 l2 g3 s g4 → Aft h1 xs p lv a2 l2 h s g4 := fun A => lift (Aft.thn (x3.of (S := p :: s.blks)) (fun b q => .inl q) A)
    have off3 : ∀ {b : Nat} {cs : List AVal}, Ob g3 b cs → b ≠ p → b ∉ p :: s.blks := fun ob hb q => by
      rcases List.mem_cons.1 q with q | q
      · exact hb q
      · exact P3.g.1.ob ob q
    try simp
    refine TV.bind (each_one hX hd (by omega) B.r P3 opb3 odb3 sl.1) (fun v g q => by omega) ?_
    rintro _ g4 ⟨_, rfl, A⟩
    obtain ⟨s1, P4, x4, z4⟩ := A
    have opb4 := opb3.ext x4 (off3 opb3 hpb)
    have hw0 : IntKind.i64.wrap (200 + o) = 200 + o := wrap_id (by omega) (by omega)
    have hw1 : IntKind.i64.wrap (200 : Int) = 200 := wrap_id (by omega) (by omega)
    have hw2 : IntKind.i64.wrap (0 : Int) = 0 := wrap_id (by omega) (by omega)
    simp [Heap.cell, opb4.1, P4.o.1, hw0, hw1, hw2]
    refine TV.app1E (r := intR) (h0 := h1) (x := 200 + o) P4.g (by rfl) (by rfl) (by rfl) (by rfl) (by rfl) (by have := B.len; have := B.top; omega) (by decide) P4.le ?_
    intro s' g5 q5 x5 x5' z5
    have opb5 := opb4.ext x5 (P4.g.1.ob opb4)
    have hk := opb5.kill (id := g4.next) (by have := opb4.ge; have := x5.n0; have := n0_le g4; omega) (by have := opb4.lt; omega)
    simp [hk]
    refine TV.st1E (P4.o.ext x5 (P4.g.1.ob P4.o)) q5.1.cells q5.1.one (by simp) fun g6 o6 x6 => ?_
    try simp
    exact TV.ok (hQ _ _ ⟨lift3 (Aft.thn x4 z4 (P4.logged q5 x5 z5 (by simpa using o6) x6)), by simp, by simp [t2], by simp [t3]⟩)
  | thr4 hd5 B ho =>
    rename_i o
    have : decide (deep < 5) = true := by simp; omega
    simp [odb2.1, this, t2, t3]
    refine TV.lit (r := clR pb db) (xs := [37, 38]) (css := [[.fn 37 [] [.ptr pb 0, .ptr db 0]], [.fn 38 [] [.ptr pb 0, .ptr db 0]]]) (by rfl) ⟨rfl, rfl, trivial⟩ (by rfl) (by rfl) (by rfl) fun v g3 sl x3 bl => ?_
    have opb3 := opb2.e x3
    have odb3 := odb2.e x3
    have P3 := P2.e x3
    have lift3 : ∀ {a2 : Nat} {l2 : List Int} {g4 : Heap}, Aft h1 xs p lv a2 l2 g3 s g4 → Aft h1 xs p lv a2 l2 h s g4 := fun A => lift (Aft.thn (x3.of (S := p :: s.blks)) (fun b q => .inl q) A)
    have off3 : ∀ {b : Nat} {cs : List AVal}, Ob g3 b cs → b ≠ p → b ∉ p :: s.blks := fun ob hb q => by
      rcases List.mem_cons.1 q with q | q
      · exact hb q
      · exact P3.g.1.ob ob q
    try simp
    refine TV.bind (each_one hX hd (by omega) B.r P3 opb3 odb3 sl.1) ?_ ?_
    · rintro v g4 ⟨_, hv, A⟩
      exact hV _ _ ⟨⟨o, rfl, hv⟩, lift3 A⟩
    · rintro _ g4 ⟨h8, _⟩
      omega
  | two4 hd5 B B2 h0 ho =>
    rename_i o a1 l1 l2
    have : decide (deep < 5) = true := by simp; omega
    simp [odb2.1, this, t2, t3]
    refine TV.lit (r := clR pb db) (xs := [37, 38]) (css := [[.fn 37 [] [.ptr pb 0, .ptr db 0]], [.fn 38 [] [.ptr pb 0, .ptr db 0]]]) (by rfl) ⟨rfl, rfl, trivial⟩ (by rfl) (by rfl) (by rfl) fun v g3 sl x3 bl => ?_
    have opb3 := opb2.e x3
    have odb3 := odb2.e x3
    have P3 := P2.e x3
    have lift3 : ∀ {a2 : Nat} {l2 : List Int} {g4 : Heap}, Aft h1 xs p lv a2 l2 g3 s g4 → Aft h1 xs p lv a2 l2 h s g4 := fun A => lift (Aft.thn (x3.of (S := p :: s.blks)) (fun b q => .inl q) A)
    have off3 : ∀ {b : Nat} {cs : List AVal}, Ob g3 b cs → b ≠ p → b ∉ p :: s.blks := fun ob hb q => by
      rcases List.mem_cons.1 q with q | q
      · exact hb q
      · exact P3.g.1.ob ob q
    try simp
    refine TV.bind (each_two hX hd B.r B2.r P3 opb3 odb3 hpb hdb sl.1) (fun v g q => by omega) ?_
    rintro _ g4 ⟨_, rfl, A⟩
    have c1 : (if o = 0 then (2 : Int) else 1) = 1 := if_neg (by omega)
    simp only [c1]
    obtain ⟨s1, P4, x4, z4⟩ := A
    have opb4 := opb3.ext x4 (off3 opb3 hpb)
    have hw0 : IntKind.i64.wrap (210 + o) = 210 + o := wrap_id (by omega) (by omega)
    have hw1 : IntKind.i64.wrap (210 : Int) = 210 := wrap_id (by omega) (by omega)
    have hw2 : IntKind.i64.wrap (10 : Int) = 10 := wrap_id (by omega) (by omega)
    simp [Heap.cell, opb4.1, P4.o.1, hw0, hw1, hw2]
    refine TV.app1E (r := intR) (h0 := h1) (x := 210 + o) P4.g (by rfl) (by rfl) (by rfl) (by rfl) (by rfl) (by have := B2.len; have := B2.top; have := B.len; have := B.top; omega) (by decide) P4.le ?_
    intro s' g5 q5 x5 x5' z5
    have opb5 := opb4.ext x5 (P4.g.1.ob opb4)
    have hk := opb5.kill (id := g4.next) (by have := opb4.ge; have := x5.n0; have := n0_le g4; omega) (by have := opb4.lt; omega)
    simp [hk]
    refine TV.st1E (P4.o.ext x5 (P4.g.1.ob P4.o)) q5.1.cells q5.1.one (by simp) fun g6 o6 x6 => ?_
    try simp
    exact TV.ok (hQ _ _ ⟨lift3 (Aft.thn x4 z4 (P4.logged q5 x5 z5 (by simpa using o6) x6)), by simp, by simp [t2], by simp [t3]⟩)
  | all4 hd5 B B2 =>
    rename_i a1 l1 l2
    have : decide (deep < 5) = true := by simp; omega
    simp [odb2.1, this, t2, t3]
    refine TV.lit (r := clR pb db) (xs := [37, 38]) (css := [[.fn 37 [] [.ptr pb 0, .ptr db 0]], [.fn 38 [] [.ptr pb 0, .ptr db 0]]]) (by rfl) ⟨rfl, rfl, trivial⟩ (by rfl) (by rfl) (by rfl) fun v g3 sl x3 bl => ?_
    have opb3 := opb2.e x3
    have odb3 := odb2.e x3
    have P3 := P2.e x3
    have lift3 : ∀ {a2 : Nat} {l2 : List Int} {g4 : Heap}, Aft h1 xs p lv a2 l2 g3 s g4 → Aft h1 xs p lv a2 l2 h s g4 := fun A => lift (Aft.thn (x3.of (S := p :: s.blks)) (fun b q => .inl q) A)
    have off3 : ∀ {b : Nat} {cs : List AVal}, Ob g3 b cs → b ≠ p → b ∉ p :: s.blks := fun ob hb q => by
      rcases List.mem_cons.1 q with q | q
      · exact hb q
      · exact P3.g.1.ob ob q
    try simp
    refine TV.bind (each_two hX hd B.r B2.r P3 opb3 odb3 hpb hdb sl.1) (fun v g q => by omega) ?_
    rintro _ g4 ⟨_, rfl, A⟩
    simp only [if_true]
    obtain ⟨s1, P4, x4, z4⟩ := A
    have opb4 := opb3.ext x4 (off3 opb3 hpb)
    have hw0 : IntKind.i64.wrap (220 : Int) = 220 := wrap_id (by omega) (by omega)
    have hw1 : IntKind.i64.wrap (20 : Int) = 20 := wrap_id (by omega) (by omega)
    simp [Heap.cell, opb4.1, P4.o.1, hw0, hw1]
    refine TV.app1E (r := intR) (h0 := h1) (x := 220) P4.g (by rfl) (by rfl) (by rfl) (by rfl) (by rfl) (by have := B2.len; have := B2.top; have := B.len; have := B.top; omega) (by decide) P4.le ?_
    intro s' g5 q5 x5 x5' z5
    have opb5 := opb4.ext x5 (P4.g.1.ob opb4)
    have hk := opb5.kill (id := g4.next) (by have := opb4.ge; have := x5.n0; have := n0_le g4; omega) (by have := opb4.lt; omega)
    simp [hk]
    refine TV.st1E (P4.o.ext x5 (P4.g.1.ob P4.o)) q5.1.cells q5.1.one (by simp) fun g6 o6 x6 => ?_
    try simp
    exact TV.ok (hQ _ _ ⟨lift3 (Aft.thn x4 z4 (P4.logged q5 x5 z5 (by simpa using o6) x6)), by simp, by simp [t2], by simp [t3]⟩)
  | thr4b hd5 B B2 ho =>
    rename_i o a1 l1
    have : decide (deep < 5) = true := by simp; omega
    simp [odb2.1, this, t2, t3]
    refine TV.lit (r := clR pb db) (xs := [37, 38]) (css := [[.fn 37 [] [.ptr pb 0, .ptr db 0]], [.fn 38 [] [.ptr pb 0, .ptr db 0]]]) (by rfl) ⟨rfl, rfl, trivial⟩ (by rfl) (by rfl) (by rfl) fun v g3 sl x3 bl => ?_
    have opb3 := opb2.e x3
    have odb3 := odb2.e x3
    have P3 := P2.e x3
    have lift3 : ∀ {a2 : Nat} {l2 : List Int} {g4 : Heap}, Aft h1 xs p lv a2 l2 g3 s g4 → Aft h1 xs p lv a2 l2 h s g4 := fun A => lift (Aft.thn (x3.of (S := p :: s.blks)) (fun b q => .inl q) A)
    have off3 : ∀ {b : Nat} {cs : List AVal}, Ob g3 b cs → b ≠ p → b ∉ p :: s.blks := fun ob hb q => by
      rcases List.mem_cons.1 q with q | q
      · exact hb q
      · exact P3.g.1.ob ob q
    try simp
    refine TV.bind (each_two hX hd B.r B2.r P3 opb3 odb3 hpb hdb sl.1) ?_ ?_
    · rintro v g4 ⟨_, hv, A⟩
      exact hV _ _ ⟨⟨o, rfl, hv⟩, lift3 A⟩
    · rintro _ g4 ⟨h8, _⟩
      omega
end
end Go.Proofs.Ytepdlgcoehpnbaa
