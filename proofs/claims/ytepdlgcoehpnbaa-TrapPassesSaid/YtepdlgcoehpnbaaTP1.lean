/-
  Law TrapPasses: what its functions tell.
-/
import Derived.Test.YtepdlgcoehpnbaaTP0
set_option linter.unusedVariables false
set_option linter.unusedSimpArgs false
namespace Go.Proofs.Ytepdlgcoehpnbaa
open Go.Ab

/-- d, d - 1, .., d - n. -/
def down (d : Int) (n : Nat) : List Int := (List.range (n + 1)).map fun (j : Nat) => d - (j : Int)
theorem down_succ (d : Int) (n : Nat) : down d (n + 1) = down d n ++ [d - ((n + 1 : Nat) : Int)] := by
  unfold down
  rw [List.range_succ (n := n + 1)]
  simp
theorem down_len (d : Int) (n : Nat) : (down d n).length = n + 1 := by simp [down]

structure PI (h1 : Heap) (O D S N : Nat) (d : Int) (t : ByteArray) (h : Heap) (s : AVal) (l : List Int) : Prop where
  oo : Ob h O [s]
  od : Ob h D [I d]
  os : Ob h S [.str t]
  on : Ob h N [.fn 25 [] [.ptr O 0, .ptr D 0, .ptr S 0, .ptr N 0]]
  ne : D ≠ O ∧ S ≠ O ∧ N ≠ O
  row : Gl intR h1 h s l
  le : h1.next ≤ h.next

theorem PI.e {h1 h h' : Heap} {O D S N : Nat} {d : Int} {t : ByteArray} {s : AVal} {l : List Int} (p : PI h1 O D S N d t h s l) (e : Ext [] h h') : PI h1 O D S N d t h' s l :=
  ⟨p.oo.e e, p.od.e e, p.os.e e, p.on.e e, p.ne, p.row.e e, Nat.le_trans p.le e.next⟩

/-- Something else is written. -/
theorem PI.x {h1 h h' : Heap} {O D S N b : Nat} {d : Int} {t : ByteArray} {s : AVal} {l : List Int} {cs : List AVal} (p : PI h1 O D S N d t h s l) (ob : Ob h b cs) (e : Ext [b] h h') (hb : b ≠ O ∧ b ≠ D ∧ b ≠ S ∧ b ≠ N) : PI h1 O D S N d t h' s l :=
  ⟨p.oo.ext e (by simpa using fun q => hb.1 q.symm), p.od.ext e (by simpa using fun q => hb.2.1 q.symm), p.os.ext e (by simpa using fun q => hb.2.2.1 q.symm), p.on.ext e (by simpa using fun q => hb.2.2.2 q.symm), p.ne,
    p.row.ext e fun c hc q => by
      rw [List.mem_singleton.1 q] at hc
      exact p.row.1.ob ob hc, Nat.le_trans p.le e.next⟩

section
variable {X : XTab} {h1 h : Heap} {O D S N : Nat} {d : Int} {t : ByteArray} {s : AVal} {l : List Int}

theorem push_tells {V : AVal → Heap → Prop} {call : Nat → FuncId → List AVal → Heap → Res AVal} {kb : Nat} {k : Int} (p : PI h1 O D S N d t h s l) (ok : Ob h kb [I k]) (hl : l.length < 100) :
    TellsV V (fun m => bodyR Try.prog (call m) m Try.f26 [.ptr O 0, .ptr kb 0] h) fun _ h' => Ext (O :: s.blks) h h' ∧ ∃ s', PI h1 O D S N d t h' s' (l ++ [k]) ∧ ∀ b, b ∈ s'.blks → b ∈ s.blks ∨ h.next ≤ b := by
  simp only [E_precentorlaw1_TrapPasses_1_1]
  refine TV.prot fun V' Q' hV hQ => ?_
  unfold S_precentorlaw1_TrapPasses_1_1
  simp [Heap.cell, p.oo.1, ok.1]
  refine TV.app1 (r := intR) (h0 := h1) (x := k) p.row (by rfl) (by rfl) (by rfl) (by rfl) (by rfl) (by omega) (by decide) p.le ?_
  intro s' h2 g2 x2 x3 z2
  have hO : ∀ {b : Nat} {cs : List AVal}, Ob h b cs → Ob h2 b cs := fun o => o.ext x2 (p.row.1.ob o)
  have o2 := hO p.oo
  refine TV.st1 o2 g2.1.cells g2.1.one (by simp) fun h3 o3 x4 => ?_
  try simp
  have hS : ∀ {b : Nat} {cs : List AVal}, b ≠ O → Ob h b cs → Ob h3 b cs := fun q o => (hO o).ext x4 (by simpa using q)
  refine TV.ok (hQ _ _ ⟨?_, s', ⟨by simpa using o3, hS p.ne.1 p.od, hS p.ne.2.1 p.os, hS p.ne.2.2 p.on, p.ne, g2.extO x4 fun b hb => .inl (by rw [List.mem_singleton.1 hb]; exact o2.2.1), Nat.le_trans p.le (Nat.le_trans x2.next x4.next)⟩, z2⟩)
  exact (x2.mono fun b q => List.mem_cons_of_mem _ q).then x4 fun b q => .inl (by rw [List.mem_singleton.1 q]; simp)

theorem text_add (o1 o2 : Operand) (a b : ByteArray) (hs : a.size + b.size < 2 ^ 62) : aBin Try.prog .add 9 o1 o2 (.str a) (.str b) = some (.str (a ++ b)) := by
  have : aPure Try.prog (do eqGuard .add 9 o1 o2 (.string a) (.string b); binOp .add 9 (.string a) (.string b)) = some (.string (a ++ b)) := by
    show aPure Try.prog (if ((a.size + b.size : Nat) : Int) > IntKind.i64.max then _ else _) = _
    have h : IntKind.i64.max = 9223372036854775807 := rfl
    rw [if_neg (by omega)]
    rfl
  simp only [aBin, AVal.toV, this, ofV]

/-- The nested function: it panics, with its text; on the way each pushes its number. -/
theorem nest_tells (hX : OnlyKnown X) (hd : 0 ≤ d) (hd2 : d ≤ 12) (ht : t.size < 2 ^ 61) : ∀ (n : Nat) {k : Int} {h : Heap} {s : AVal} {l : List Int}, k + n = d → 0 ≤ k → PI h1 O D S N d t h s l → l.length + n < 50 →
    TellsV (fun v h' => v = .iface 9 (.str (textB ++ t)) ∧ Ext (O :: s.blks) h h' ∧ ∃ s', PI h1 O D S N d t h' s' (l ++ down d n) ∧ ∀ b, b ∈ s'.blks → b ∈ s.blks ∨ h.next ≤ b)
      (fun m => acallX Try.prog X m 25 [I k, .ptr O 0, .ptr D 0, .ptr S 0, .ptr N 0] h) fun _ _ => False
  | n, k, h, s, l, hk, hk0, p, hl => by
    obtain ⟨r0, r1, z, hbody, ⟨d0, d1, dz⟩, e0, e1, ez⟩ := parts25
    have top2 : ∀ {x y : Code}, topOp isDef x = true → topOp isDef (.seq x y) = true := fun k => by simp only [topOp, k, Bool.true_or]
    have top1 : ∀ {x y : Code}, topOp isDef y = true → topOp isDef (.seq x y) = true := fun k => by simp only [topOp, k, Bool.or_true]
    have q1 : topOp isDef (.seq r1 z) = true := top2 d1
    have q0 : topOp isDef (.seq r0 (.seq r1 z)) = true := top1 q1
    have hnt : (List.length [I k, .ptr O 0, .ptr D 0, .ptr S 0, .ptr N 0] + (Try.f25.ntmps - List.length [I k, .ptr O 0, .ptr D 0, .ptr S 0, .ptr N 0])) = 18 := rfl
    refine TV.deferred Try.func25 (hX 25 _ rfl) hbody (by unfold defers; rw [hbody]; exact q0) ?_
    rw [hnt]
    refine TD.seq q0 (TD.plain (Q := fun r h' => ∃ kb, r.1 = .normal ∧ r.2 = upd (enterT [I k, .ptr O 0, .ptr D 0, .ptr S 0, .ptr N 0]) 5 (.ptr kb 0) ∧ Ob h' kb [I k] ∧ Ext [] h h' ∧ h.next ≤ kb) (V := fun _ _ => False) d0 ?_ ?_ fun _ _ => False.elim)
    · simp only [e0, enterT_0]
      exact TV.box rfl rfl fun h1 b o x l => TV.ok ⟨b, rfl, rfl, o, x, l⟩
    rintro ex t1 g ⟨kb, rfl, rfl, okb, x1, l1⟩
    dsimp only
    refine TD.seq q1 (TD.eq (fun m => e1 _ _ _ _ _) ?_)
    dsimp only
    have pg := p.e x1
    have out : ∀ {t' : T} {g2 : Heap} {s2 : AVal} {l2 : List Int}, Ext (O :: s.blks) g g2 → PI h1 O D S N d t g2 s2 l2 → (∀ b, b ∈ s2.blks → b ∈ s.blks ∨ h.next ≤ b) → l2.length < 60 → l2 ++ [k] = l ++ down d n →
        TellsV (fun v h' => v = .iface 9 (.str (textB ++ t)) ∧ Ext (O :: s.blks) h h' ∧ ∃ s', PI h1 O D S N d t h' s' (l ++ down d n) ∧ ∀ b, b ∈ s'.blks → b ∈ s.blks ∨ h.next ≤ b)
          (fun m => leave Try.prog (acallX Try.prog X m) m Try.f25 t' [.fn 26 [] [.ptr O 0, .ptr kb 0]] (.pan (.iface 9 (.str (textB ++ t))) false) g2) fun _ _ => False := by
      intro t' g2 s2 l2 x2 p2 z2 hl2 he
      have okb2 : Ob g2 kb [I k] := okb.ext x2 (by
        intro q
        rcases List.mem_cons.1 q with q | q
        · have := p.oo.lt; omega
        · have := (p.row.1.blk _ q).2; omega)
      refine TV.leave (by kernel_rfl) (TV.dcallP (V := fun _ _ => False) Try.func26 (c := codeOf Try.f26) (by kernel_rfl) (by kernel_rfl) (push_tells p2 okb2 (by omega))) ?_ fun _ _ => False.elim
      rintro u g3 ⟨rfl, a, x3, s3, p3, z3⟩
      refine TV.leave_pan ⟨rfl, ?_, s3, by rw [← he]; exact p3, fun b hb => ?_⟩
      · refine ((x1.of (S := O :: s.blks)).trans x2).then x3 fun b hb => ?_
        rcases List.mem_cons.1 hb with q | q
        · exact .inl (by rw [q]; simp)
        · rcases z2 b q with z | z
          · exact .inl (List.mem_cons_of_mem _ z)
          · exact .inr z
      · rcases z3 b hb with q | q
        · exact z2 b q
        · exact .inr (Nat.le_trans (Nat.le_trans x1.next x2.next) q)
    have hsz : textB.size + t.size < 2 ^ 62 := by
      have : textB.size = 5 := rfl
      omega
    have t5 : ∀ {a b c e f : AVal}, enterT [a, b, c, e, f] 2 = c ∧ enterT [a, b, c, e, f] 3 = e ∧ enterT [a, b, c, e, f] 4 = f ∧ enterT [a, b, c, e, f] 1 = b := ⟨rfl, rfl, rfl, rfl⟩
    cases n with
    | zero =>
      refine TD.plain (Q := fun _ _ => False) (V := fun v g2 => v = .iface 9 (.str (textB ++ t)) ∧ g2 = g) dz ?_ (fun _ _ _ => False.elim) ?_
      · have hkd : (k == d) = true := by simp; omega
        simp [ez, t5, Heap.cell, okb.1, pg.od.1, hkd, pg.os.1, text_add _ _ _ _ hsz, pncR]
        exact TV.pan ⟨rfl, rfl⟩
      · rintro v g2 ⟨rfl, rfl⟩
        exact out .refl pg (fun b hb => .inl hb) (by omega) (by simp [down]; omega)
    | succ n =>
      have hS : ∀ x ∈ O :: s.blks, x < g.next := fun x hx => by
        rcases List.mem_cons.1 hx with q | q
        · rw [q]; exact pg.oo.lt
        · exact (pg.row.1.blk _ q).2
      refine TD.plain (Q := fun _ _ => False) (V := fun v g2 => v = .iface 9 (.str (textB ++ t)) ∧ Ext (O :: s.blks) g g2 ∧ ∃ s', PI h1 O D S N d t g2 s' (l ++ down d n) ∧ ∀ b, b ∈ s'.blks → b ∈ s.blks ∨ h.next ≤ b) dz ?_ (fun _ _ _ => False.elim) ?_
      · have hkd : (k == d) = false := by simp; omega
        refine TV.prot fun V' Q' hV hQ => ?_
        simp [ez, t5, Heap.cell, okb.1, pg.od.1, hkd]
        refine TV.bind (run_tells hX (g := 27) (a := []) (b := [.ptr N 0, .ptr kb 0]) (by kernel_rfl) (S := O :: s.blks) hS (V := fun v h2 => v = .iface 9 (.str (textB ++ t)) ∧ ∃ s', PI h1 O D S N d t h2 s' (l ++ down d n) ∧ ∀ b, b ∈ s'.blks → b ∈ s.blks ∨ h.next ≤ b) (Q := fun _ => False) ?_ fun v h2 q => .inr (.inr ⟨_, q.1⟩)) ?_ ?_
        · intro g1 x2 n2
          refine RV_precentorlaw1_TrapPasses_1_2 _ _ (hX _ _ rfl) ?_
          refine TV.prot fun V2 Q2 hV2 hQ2 => ?_
          unfold S_precentorlaw1_TrapPasses_1_2
          have p1 := pg.e x2
          have hw : IntKind.i64.wrap (k + 1) = k + 1 := wrap_id (by omega) (by omega)
          simp [Heap.cell, p1.on.1, (okb.e x2).1, hw]
          rw [show clvR Try.prog (.fn 25 [] [.ptr O 0, .ptr D 0, .ptr S 0, .ptr N 0]) [I (k + 1)] g1 = .call 25 [I (k + 1), .ptr O 0, .ptr D 0, .ptr S 0, .ptr N 0] g1 from by kernel_rfl]
          simp only [arb_call]
          refine TV.bind (nest_tells hX hd hd2 ht n (k := k + 1) (by omega) (by omega) p1 (by omega)) ?_ fun _ _ => False.elim
          rintro v g2 ⟨rfl, x3, s3, p3, z3⟩
          exact hV2 _ _ ⟨x3, rfl, s3, p3, fun b hb => (z3 b hb).imp_right fun q => Nat.le_trans (Nat.le_trans x1.next x2.next) q⟩
        · rintro v g2 ⟨_, ⟨rfl, s3, p3, z3⟩, x3⟩
          exact hV _ _ ⟨rfl, x3, s3, p3, z3⟩
        · rintro r g2 ⟨_, h2, _, q⟩
          rcases q with ⟨_, q⟩ | ⟨e, _, q, _⟩
          · exact q.elim
          · cases q
      · rintro v g2 ⟨rfl, x2, s3, p3, z3⟩
        refine out x2 p3 z3 (by simp [down_len]; omega) ?_
        rw [down_succ, List.append_assoc]
        have : d - ((n + 1 : Nat) : Int) = k := by omega
        rw [this]
  termination_by n => n
end
end Go.Proofs.Ytepdlgcoehpnbaa
