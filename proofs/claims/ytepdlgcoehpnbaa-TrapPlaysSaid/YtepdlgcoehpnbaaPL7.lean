/-
  Law TrapPlays: what is thrown.
-/
import Derived.Test.YtepdlgcoehpnbaaPL6
set_option linter.unusedVariables false
set_option linter.unusedSimpArgs false
namespace Go.Proofs.Ytepdlgcoehpnbaa
open Go.Ab

theorem parts19 : ∃ r0 r1 y, Try.f19.body = some (.seq r0 (.seq r1 y)) ∧ (topOp isDef r0 = false ∧ topOp isDef r1 = true ∧ topOp isDef y = false) ∧
    (∀ call fuel t h, execR Try.prog call fuel 6 r0 (Ex × T) t h okK = arb (newR [.int .i64 0] h) call fun v h => okK .normal (upd t 2 v) h) ∧
    (∀ call fuel t ds h, execD Try.prog call fuel 6 r1 t ds h = .ok .normal (upd t 3 (.fn 33 [] [t 2])) (.fn 33 [] [t 2] :: ds) h) ∧
    (∀ call fuel t h, execR Try.prog call fuel 6 y (Ex × T) t h okK = arb (.val (t 0) h) call fun v h1 => arb (clvR Try.prog v [] h1) call fun v2 h2 => arb (stR 1 h2 (t 2) (.int .i64 0)) call fun _ h3 => okK .ret (upd (upd t 4 v) 5 v2) h3) ∧ wr y 2 = false := by
  refine ⟨(codeOf Try.f19).fst, (codeOf Try.f19).snd.fst, (codeOf Try.f19).snd.snd, ?_, ⟨?_, ?_, ?_⟩, fun _ _ _ _ => ?_, fun _ _ _ _ _ => ?_, fun _ _ _ _ => ?_, ?_⟩ <;> kernel_rfl

theorem parts33 : ∃ id ops y, Try.f33.body = some (.seq (.region id ops false) y) ∧ topOp isRec (.seq (.region id ops false) y) = true ∧
    (∀ call v h t, seqOpsS Try.prog call 16 ops ops.toList t (.pan v false) h = .ok (upd t 5 v, .pan v true) h) ∧
    (∀ call h t, seqOpsS Try.prog call 16 ops ops.toList t .ret h = .ok (upd t 5 .nili, .ret) h) ∧
    (∀ call fuel t h, execR Try.prog call fuel 16 y (Ex × T) (upd t 5 .nili) h okK = okK .normal (upd (upd (upd t 5 .nili) 6 (.bool true)) 1 .nili) h) ∧
    (∀ call fuel t h n, execR Try.prog call fuel 16 y (Ex × T) (upd t 5 (.iface 3 (.int .i64 n))) h okK = arb (.of (aBin Try.prog .add 3 (.const (.int .i64 50)) (.tmp 10) (.int .i64 50) (.int .i64 n)) h) call fun s h1 => arb (stR 1 h1 (t 0) s) call fun _ h2 =>
      okK .normal (upd (upd (upd (upd (upd (upd (upd (upd t 5 (.iface 3 (.int .i64 n))) 6 (.bool false)) 7 (.tup [.int .i64 n, .bool true])) 8 (.bool true)) 9 (.int .i64 n)) 2 (.int .i64 n)) 10 (.int .i64 n)) 11 s) h2) ∧
    (∀ call fuel t h e, execR Try.prog call fuel 16 y (Ex × T) (upd t 5 (.iface 22 (.int .i64 e))) h okK = arb (stR 1 h (t 0) (.int .i64 e)) call fun _ h2 =>
      okK .normal (upd (upd (upd (upd (upd (upd (upd (upd (upd (upd t 5 (.iface 22 (.int .i64 e))) 6 (.bool false)) 7 (.tup [.int .i64 0, .bool false])) 8 (.bool false)) 9 (.int .i64 0)) 12 (.tup [.int .i64 e, .bool true])) 13 (.bool true)) 14 (.int .i64 e)) 3 (.int .i64 e)) 15 (.int .i64 e)) h2) := by
  refine ⟨0, _, (codeOf Try.f33).snd, rfl, ?_, fun _ _ _ _ => ?_, fun _ _ _ => ?_, fun _ _ _ _ => ?_, fun _ _ _ _ _ => ?_, fun _ _ _ _ _ => ?_⟩ <;> kernel_rfl

theorem none33 (t : T) (h : Heap) : aResults Try.prog Try.f33 t h = some (.tup []) := by kernel_rfl
theorem res19 {t : T} {h : Heap} {b : Nat} {x : AVal} (ht : t 2 = .ptr b 0) (o : Ob h b [x]) : aResults Try.prog Try.f19 t h = some x := by
  have hr : Try.f19.results.toList = [.cell 2 3] := by kernel_rfl
  have hl : aLoad Try.prog h 3 (.ptr b 0) = ld1 h (.ptr b 0) := by kernel_rfl
  simp only [aResults, hr, aResultL, aResult, ht, hl, ld1, Heap.cell, o.1]
  rfl

section
variable {call : Nat → FuncId → List AVal → Heap → Res AVal} {h : Heap} {b : Nat}

theorem d33_ret {V : AVal → Heap → Prop} (p : AVal) : TellsV V (fun m => dcall Try.prog (call m) m 33 [p] .ret h) fun u h' => u = .ret ∧ h' = h := by
  obtain ⟨id, ops, y, hb, hr, s1, s2, e1, e2, e3⟩ := parts33
  refine TV.mono (TV.dcall (Q := fun h' => h' = h) Try.func33 hb hr (fun m => s2 (call m) h _) ?_) (fun u h' k => k) fun _ _ k => k
  simp only [show ∀ m t, execR Try.prog (call m) m (List.length [p] + (Try.f33.ntmps - List.length [p])) y (Ex × T) t h okK = execR Try.prog (call m) m 16 y (Ex × T) t h okK from fun _ _ => rfl, e1]
  exact TV.ok ⟨.inl rfl, ⟨_, none33 _ _⟩, rfl⟩

theorem d33_out {V : AVal → Heap → Prop} {x v : AVal} {out : Int} (o : Ob h b [x]) (hv : OutV out v) : TellsV V (fun m => dcall Try.prog (call m) m 33 [.ptr b 0] (.pan v false) h) fun u h' => u = .pan v true ∧ Ob h' b [I out] ∧ Ext [b] h h' := by
  obtain ⟨id, ops, y, hb, hr, s1, s2, e1, e2, e3⟩ := parts33
  refine TV.dcall (Q := fun h' => Ob h' b [I out] ∧ Ext [b] h h') Try.func33 hb hr (fun m => s1 (call m) _ h _) ?_
  rcases hv with ⟨_, _, rfl⟩ | ⟨n, n0, n8, rfl, rfl⟩
  · simp only [show ∀ m t, execR Try.prog (call m) m (List.length [AVal.ptr b 0] + (Try.f33.ntmps - List.length [AVal.ptr b 0])) y (Ex × T) t h okK = execR Try.prog (call m) m 16 y (Ex × T) t h okK from fun _ _ => rfl, e3, enterT_0]
    exact TV.st1 o rfl rfl (by simp) fun h' o' x => TV.ok ⟨.inl rfl, ⟨_, none33 _ _⟩, by simpa using o', x⟩
  · have hw : IntKind.i64.wrap (50 + n) = 50 + n := wrap_id (by omega) (by omega)
    simp only [show ∀ m t, execR Try.prog (call m) m (List.length [AVal.ptr b 0] + (Try.f33.ntmps - List.length [AVal.ptr b 0])) y (Ex × T) t h okK = execR Try.prog (call m) m 16 y (Ex × T) t h okK from fun _ _ => rfl, e2, enterT_0, aBin_add, hw, of_some, arb_val]
    exact TV.st1 o rfl rfl (by simp) fun h' o' x => TV.ok ⟨.inl rfl, ⟨_, none33 _ _⟩, by simpa using o', x⟩
end

section
variable {X : XTab} {h1 h : Heap} {xs : List (Int × Int)} {p a a' ac : Nat} {lv s : AVal} {log log' : List Int} {out : Int}

theorem thrown_tells (hX : OnlyKnown X) (B : RunF X xs 0 a log out a' log') (P : Pl h1 xs p lv a log h s) (oc : Ob h ac [.ptr p 0]) :
    Tells (fun m => acallX Try.prog X m 19 [.fn 20 [] [.ptr ac 0]] h) fun r h' => r = I out ∧ Aft h1 xs p lv a' log' h s h' := by
  obtain ⟨r0, r1, y, hbody, ⟨d0, d1, dy⟩, e0, e1, ey, wy⟩ := parts19
  have top2 : ∀ {x y : Code}, topOp isDef x = true → topOp isDef (.seq x y) = true := fun k => by simp only [topOp, k, Bool.true_or]
  have top1 : ∀ {x y : Code}, topOp isDef y = true → topOp isDef (.seq x y) = true := fun k => by simp only [topOp, k, Bool.or_true]
  have q1 : topOp isDef (.seq r1 y) = true := top2 d1
  have q0 : topOp isDef (.seq r0 (.seq r1 y)) = true := top1 q1
  have hnt : (List.length [AVal.fn 20 [] [.ptr ac 0]] + (Try.f19.ntmps - List.length [AVal.fn 20 [] [.ptr ac 0]])) = 6 := rfl
  refine TV.no (TV.deferred Try.func19 (hX 19 _ rfl) hbody (by unfold defers; rw [hbody]; exact q0) ?_)
  rw [hnt]
  refine TD.seq q0 (TD.plain (Q := fun r h' => r.1 = .normal ∧ r.2 = upd (enterT [.fn 20 [] [.ptr ac 0]]) 2 (.ptr h.next 0) ∧ Ob h' h.next [.int .i64 0] ∧ Ext [] h h' ∧ h'.next = h.next + 1) (V := fun _ _ => False) d0 ?_ ?_ fun _ _ => False.elim)
  · simp only [e0]
    exact TV.ok ⟨rfl, rfl, Ob.new _ _, Ext.new _ _ _, next_new' _ _ _⟩
  rintro ex t1 g ⟨rfl, rfl, o1, x1, n1⟩
  dsimp only
  refine TD.seq q1 (TD.eq (fun m => e1 _ _ _ _ _) ?_)
  dsimp only
  have hn : h.next ∉ p :: s.blks := fun q => by
    rcases List.mem_cons.1 q with q | q
    · have := P.o.lt; omega
    · have := P.blt _ q; omega
  have hp : h.next ≠ p := by have := P.o.lt; omega
  have lift : ∀ {g2 : Heap}, Aft h1 xs p lv a' log' g s g2 → Aft h1 xs p lv a' log' h s g2 := fun A => Aft.thn (x1.of (S := p :: s.blks)) (fun b q => .inl q) A
  have put : ∀ {g2 g3 : Heap} {x : AVal}, Aft h1 xs p lv a' log' g s g2 → Ob g2 h.next [x] → Ext [h.next] g2 g3 → Aft h1 xs p lv a' log' h s g3 := by
    rintro g2 g3 x A ob x3
    obtain ⟨s2, P2, x2, z2⟩ := lift A
    exact ⟨s2, P2.x ob x3 hp, x2.then x3 fun b q => .inr (by rw [List.mem_singleton.1 q]; exact Nat.le_refl _), z2⟩
  refine TD.plain (Q := fun r g2 => r.1 = .ret ∧ r.2 2 = .ptr h.next 0 ∧ out = 0 ∧ Ob g2 h.next [.int .i64 0] ∧ Aft h1 xs p lv a' log' h s g2) (V := fun v g2 => OutV out v ∧ Ob g2 h.next [.int .i64 0] ∧ Aft h1 xs p lv a' log' g s g2) dy ?_ ?_ ?_
  · refine TV.prot fun V' Q' hV hQ => ?_
    simp [ey]
    rw [show clvR Try.prog (.fn 20 [] [.ptr ac 0]) [] g = .call 20 [.ptr ac 0] g from by kernel_rfl]
    simp only [arb_call]
    have key : TellsV (fun v g2 => OutV out v ∧ Aft h1 xs p lv a' log' g s g2) (fun m => acallX Try.prog X m 20 [.ptr ac 0] g) fun _ g2 => out = 0 ∧ Aft h1 xs p lv a' log' g s g2 := by
      refine RV_precentorlaw1_TrapPlays_1 _ (hX _ _ rfl) ?_
      refine TV.prot fun V2 Q2 hV2 hQ2 => ?_
      unfold S_precentorlaw1_TrapPlays_1
      simp [Heap.cell, (oc.e x1).1]
      refine TV.bind (B h1 p lv g s (P.e x1)) (fun v g q => hV2 _ _ q) ?_
      rintro _ g2 q
      exact TV.ok (hQ2 _ _ q)
    refine TV.bind key ?_ ?_
    · rintro v g2 ⟨ho, s2, P2, x2, z2⟩
      exact hV _ _ ⟨ho, o1.ext x2 hn, s2, P2, x2, z2⟩
    · rintro _ g2 ⟨ho, A⟩
      have ob : Ob g2 h.next [.int .i64 0] := by
        obtain ⟨s2, P2, x2, z2⟩ := A
        exact o1.ext x2 hn
      refine TV.st1 ob rfl rfl (by simp) fun g3 o3 x3 => TV.ok (hQ _ _ ⟨rfl, by simp, ho, by simpa using o3, put A ob x3⟩)
  · rintro ex t3 g3 ⟨rfl, ht, ho, o3, A⟩
    refine ⟨.inr rfl, TV.leave (by kernel_rfl) (d33_ret (V := fun _ _ => False) _) ?_ fun _ _ => False.elim⟩
    rintro u h4 ⟨rfl, rfl⟩
    exact TV.leave_ret (res19 ht o3) ⟨by rw [ho], A⟩
  · rintro v g3 ⟨hv, o3, A⟩
    refine TV.leave (by kernel_rfl) (d33_out (V := fun _ _ => False) o3 hv) ?_ fun _ _ => False.elim
    rintro u g4 ⟨rfl, o4, x4⟩
    refine TV.leave_ret (res19 ?_ o4) ⟨rfl, put A o3 x4⟩
    unfold fg
    rw [wy]
    simp
end
end Go.Proofs.Ytepdlgcoehpnbaa
