/-
  Law TrapPasses: the function that catches, and the walk.
-/
import Derived.Test.YtepdlgcoehpnbaaTP1
import Derived.Test.YtepdlgcoehpnbaaKnown0
import Derived.Test.YtepdlgcoehpnbaaRow0
import Derived.Test.YtepdlgcoehpnbaaArg0
set_option linter.unusedVariables false
set_option linter.unusedSimpArgs false
namespace Go.Proofs.Ytepdlgcoehpnbaa
open Go.Ab

section
variable {X : XTab} {h1 : Heap} {O D S N : Nat} {d : Int} {t : ByteArray}

theorem d29_tells {V : AVal → Heap → Prop} {call : Nat → FuncId → List AVal → Heap → Res AVal} {h : Heap} {b : Nat} {x : AVal} {s : ByteArray} (o : Ob h b [x]) :
    TellsV V (fun m => dcall Try.prog (call m) m 29 [.ptr b 0] (.pan (.iface 9 (.str s)) false) h) fun u h' => u = .pan (.iface 9 (.str s)) true ∧ Ob h' b [.str s] ∧ Ext [b] h h' := by
  obtain ⟨id, ops, y, hb, hr, s1, e1⟩ := parts29
  refine TV.dcall (Q := fun h' => Ob h' b [.str s] ∧ Ext [b] h h') Try.func29 hb hr (fun m => s1 (call m) _ h _) ?_
  simp only [show ∀ m t, execR Try.prog (call m) m (List.length [AVal.ptr b 0] + (Try.f29.ntmps - List.length [AVal.ptr b 0])) y (Ex × T) t h okK = execR Try.prog (call m) m 10 y (Ex × T) t h okK from fun _ _ => rfl, e1, enterT_0]
  exact TV.st1 o rfl rfl (by simp) fun h' o' x => TV.ok ⟨.inl rfl, ⟨_, none29 _ _⟩, by simpa using o', x⟩

theorem catch_tells (hX : OnlyKnown X) (hd : 0 ≤ d) (hd2 : d ≤ 12) (ht : t.size < 2 ^ 61) {h : Heap} {s : AVal} {G : Nat} {x : AVal} (p : PI h1 O D S N d t h s []) (og : Ob h G [x]) (hG : G ≠ O ∧ G ≠ D ∧ G ≠ S ∧ G ≠ N) :
    Tells (fun m => acallX Try.prog X m 28 [.ptr G 0, .ptr N 0] h) fun _ h' => Ob h' G [.str (textB ++ t)] ∧ (∃ s', PI h1 O D S N d t h' s' (down d d.toNat)) ∧ Ext (G :: O :: s.blks) h h' := by
  obtain ⟨r0, y, hbody, ⟨d0, dy⟩, e0, ey⟩ := parts28
  have q0 : topOp isDef (.seq r0 y) = true := by simp only [topOp, d0, Bool.true_or]
  have hnt : (List.length [AVal.ptr G 0, .ptr N 0] + (Try.f28.ntmps - List.length [AVal.ptr G 0, .ptr N 0])) = 5 := rfl
  refine TV.no (TV.deferred Try.func28 (hX 28 _ rfl) hbody (by unfold defers; rw [hbody]; exact q0) ?_)
  rw [hnt]
  refine TD.seq q0 (TD.eq (fun m => e0 _ _ _ _ _) ?_)
  dsimp only
  have hS : ∀ x ∈ O :: s.blks, x < h.next := fun x hx => by
    rcases List.mem_cons.1 hx with q | q
    · rw [q]; exact p.oo.lt
    · exact (p.row.1.blk _ q).2
  refine TD.plain (Q := fun _ _ => False) (V := fun v g2 => v = .iface 9 (.str (textB ++ t)) ∧ Ext (O :: s.blks) h g2 ∧ ∃ s', PI h1 O D S N d t g2 s' (down d d.toNat)) dy ?_ (fun _ _ _ => False.elim) ?_
  · refine TV.prot fun V' Q' hV hQ => ?_
    simp [ey]
    refine TV.bind (run_tells hX (g := 30) (a := []) (b := [.ptr N 0]) (by kernel_rfl) (S := O :: s.blks) hS (V := fun v h2 => v = .iface 9 (.str (textB ++ t)) ∧ ∃ s', PI h1 O D S N d t h2 s' (down d d.toNat)) (Q := fun _ => False) ?_ fun v h2 q => .inr (.inr ⟨_, q.1⟩)) ?_ ?_
    · intro g1 x2 n2
      refine RV_precentorlaw1_TrapPasses_2_2 _ (hX _ _ rfl) ?_
      refine TV.prot fun V2 Q2 hV2 hQ2 => ?_
      unfold S_precentorlaw1_TrapPasses_2_2
      have p1 := p.e x2
      simp [Heap.cell, p1.on.1]
      rw [show clvR Try.prog (.fn 25 [] [.ptr O 0, .ptr D 0, .ptr S 0, .ptr N 0]) [I 0] g1 = .call 25 [I 0, .ptr O 0, .ptr D 0, .ptr S 0, .ptr N 0] g1 from by kernel_rfl]
      simp only [arb_call]
      refine TV.bind (nest_tells hX hd hd2 ht d.toNat (k := 0) (by omega) (by omega) p1 (by simp; omega)) ?_ fun _ _ => False.elim
      rintro v g2 ⟨rfl, x3, s3, p3, z3⟩
      exact hV2 _ _ ⟨x3, rfl, s3, by simpa using p3⟩
    · rintro v g2 ⟨_, ⟨rfl, s3, p3⟩, x3⟩
      exact hV _ _ ⟨rfl, x3, s3, p3⟩
    · rintro r g2 ⟨_, h2, _, q⟩
      rcases q with ⟨_, q⟩ | ⟨e, _, q, _⟩
      · exact q.elim
      · cases q
  · rintro v g2 ⟨rfl, x2, s3, p3⟩
    have og2 : Ob g2 G [x] := og.ext x2 (by
      intro q
      rcases List.mem_cons.1 q with q | q
      · exact hG.1 q
      · exact p.row.1.ob og q)
    refine TV.leave (by kernel_rfl) (d29_tells (V := fun _ _ => False) og2) ?_ fun _ _ => False.elim
    rintro u g3 ⟨rfl, o3, x3⟩
    refine TV.leave_ret (none28 _ _) ⟨o3, ⟨s3, p3.x og2 x3 hG⟩, ?_⟩
    exact (x2.mono fun b q => List.mem_cons_of_mem _ q).then x3 fun b q => .inl (by rw [List.mem_singleton.1 q]; simp)

theorem trapPasses_ (hX : OnlyKnown X) (hk : X F_precentorlaw1_known [] = some (.bool true)) {h : Heap} (t : ByteArray) (ht : t.size < 2 ^ 61) (n : Int) (hn : In64 n) : Tells (fun m => acallX Try.prog X m F_precentorlaw1_TrapPasses [.str t, I n] h) fun a _ => a = .bool true := by
  refine R_precentorlaw1_TrapPasses _ _ (hX _ _ rfl) ?_
  refine Tells.prot fun Q' hQ => ?_
  unfold S_precentorlaw1_TrapPasses
  simp
  refine Tells.box (by rfl) (by rfl) fun g1 S oS x1 l1 => ?_
  refine Tells.box (by rfl) (by rfl) fun g2 D oD x2 l2 => ?_
  simp [Heap.cell, oD.1]
  refine Tells.bind (Pick hX _ 12 (by constructor <;> omega) _) ?_
  rintro _ g ⟨rfl, rfl⟩
  have p1 := pick_lo n 12
  have p2 := pick_hi n 12 (by omega)
  have hw : IntKind.i64.wrap (1 + pick n 12) = 1 + pick n 12 := wrap_id (by omega) (by omega)
  generalize hd : 1 + pick n 12 = d at hw
  simp [hd, hw]
  refine Tells.st1 oD rfl rfl (by simp) fun g3 oD x3 => ?_
  refine Tells.new fun g4 O oO x4 l4 => ?_
  refine Tells.new fun g5 N oN x5 l5 => ?_
  refine Tells.st1 oN rfl rfl (by simp) fun g6 oN x6 => ?_
  refine Tells.newSt (n := 1) (by rfl) (by rfl) (by rfl) (by rfl) fun g7 G oG x7 l7 => ?_
  have a1 := oS.lt
  have a2 := oD.lt
  have a3 := x3.next
  have a4 := oO.lt
  have a5 := oN.lt
  have a6 := x6.next
  have a7 := x4.next
  have a8 := x5.next
  have a9 := x2.next
  have a10 := x7.next
  have oD2 := oD.lt
  have p : PI h O D S N d t g7 .nils [] := by
    refine ⟨((oO.e x5).ext x6 (by simp; omega)).e x7, ?_, ?_, ?_, ⟨by omega, by omega, by omega⟩, Gl.nil, ?_⟩
    · have := ((((oD.e x4).e x5).ext x6 (by simp; omega)).e x7)
      simpa using this
    · exact ((((((oS.e x2).ext x3 (by simp; omega)).e x4).e x5).ext x6 (by simp; omega)).e x7)
    · have := oN.e x7
      simpa using this
    · have := x1.next
      omega
  rw [show clvR Try.prog (.fn F_precentorlaw1_TrapPasses_2 [] [.ptr G 0, .ptr N 0]) [] g7 = .call 28 [.ptr G 0, .ptr N 0] g7 from by kernel_rfl]
  simp only [arb_call]
  refine Tells.bind (catch_tells hX (by omega) (by omega) ht p oG ⟨by omega, by omega, by omega, by omega⟩) ?_
  rintro _ g8 ⟨oG8, ⟨s', p8⟩, x8⟩
  refine Tells.bind (known_X hk _) ?_
  rintro _ g9 ⟨rfl, rfl⟩
  have hsz : textB.size + t.size < 2 ^ 62 := by
    have : textB.size = 5 := rfl
    omega
  have hlen := p8.row.1.len
  rw [down_len] at hlen
  have hdn : ((d.toNat + 1 : Nat) : Int) = d + 1 := by omega
  rw [hdn] at hlen
  have hw2 : IntKind.i64.wrap (d + 1) = d + 1 := wrap_id (by omega) (by omega)
  simp [Heap.cell, oG8.1, p8.os.1, p8.od.1, p8.oo.1, text_add _ _ _ _ hsz, hlen, hw2]
  unfold J_precentorlaw1_TrapPasses_0
  try simp
  refine Tells.bind (Tells.loop (fun n t g => ∃ i : Nat, t 3 = .ptr D 0 ∧ t 5 = .ptr O 0 ∧ t 8 = I i ∧ i + n = d.toNat + 1 ∧ g = g9) (Q := fun p g => p.1 = .exit 0 ∧ g = g9) ?_ (d.toNat + 1) _ _ ?_) ?_
  · rintro n t g ⟨i, t3, t5, t8, hi, rfl⟩
    refine Tells.prot fun Q2 hQ2 => ?_
    unfold L_precentorlaw1_TrapPasses_2
    simp [t3, t5, t8, Heap.cell, p8.od.1]
    refine Tells.cb (fun hc => ?_) fun hc => ?_
    · have hlt : (i : Int) ≤ d := by simpa using hc
      have hix : (down d d.toNat)[i]? = some (d - (i : Int)) := by
        unfold down
        rw [List.getElem?_map, List.getElem?_range (by omega)]
        rfl
      obtain ⟨b, p, B, q1, q2, q3⟩ := p8.row.1.atI hix
      have hw3 : IntKind.i64.wrap (d - (i : Int)) = d - i := wrap_id (by omega) (by omega)
      have hw4 : IntKind.i64.wrap ((i : Int) + 1) = ((i + 1 : Nat) : Int) := by rw [wrap_id (by omega) (by omega)]; omega
      unfold J_precentorlaw1_TrapPasses_3
      simp [t3, t5, t8, Heap.cell, p8.od.1, p8.oo.1, q1, q2, q3, hw3, J_precentorlaw1_TrapPasses_4]
      exact Tells.ok (hQ2 _ _ (.inl ⟨rfl, n - 1, by omega, i + 1, by simp [t3], by simp [t5], by simp [hw4], by omega, rfl⟩))
    · have hge : ¬ (i : Int) ≤ d := by simpa using hc
      try simp
      exact Tells.ok (hQ2 _ _ (.inr ⟨by simp, rfl, rfl⟩))
  · exact ⟨0, by simp, by simp, by simp, by omega, rfl⟩
  · rintro ⟨ex, t⟩ g ⟨rfl, rfl⟩
    unfold lpK blkK
    simp [J_precentorlaw1_TrapPasses_1]
    exact Tells.ok (hQ _ _ rfl)
end
end Go.Proofs.Ytepdlgcoehpnbaa
