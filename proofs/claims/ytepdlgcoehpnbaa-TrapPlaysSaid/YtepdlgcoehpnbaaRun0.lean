/-
  trap.Run of whatever function: its pieces.
-/
import Derived.Test.YtepdlgcoehpnbaaB2V
import Derived.Test.YtepdlgcoehpnbaaABW
import Derived.Test.YtepdlgcoehpnbaaSprecentorlaw1
import Derived.Test.YtepdlgcoehpnbaaStrap
set_option linter.unusedVariables false
set_option linter.unusedSimpArgs false
namespace Go.Proofs.Ytepdlgcoehpnbaa
open Go.Ab

theorem parts7 : ∃ r0 c1 r3 y, Try.f7.body = some (.seq r0 (.seq c1 (.seq r3 y))) ∧ (topOp isDef r0 = false ∧ topOp isDef c1 = false ∧ topOp isDef r3 = true ∧ topOp isDef y = false) ∧
    (∀ call fuel t h, execR Try.prog call fuel 8 r0 (Ex × T) t h okK = arb (newR [.int .i64 0] h) call fun v h => okK .normal (upd t 2 v) h) ∧
    (∀ call fuel t h, execR Try.prog call fuel 8 c1 (Ex × T) t h okK = arb (.val (t 0) h) call fun v h1 => arb (.of (aBin Try.prog .eql 1 (.tmp 3) (.const .nilFunc) v .nilf) h1) call fun v2 h2 => cb v2 (
      arb (stR 1 h2 (t 2) (.int .i64 0)) call fun _ h3 => okK .ret (upd (upd t 3 v) 4 v2) h3) (okK .normal (upd (upd t 3 v) 4 v2) h2)) ∧
    (∀ call fuel t ds h, execD Try.prog call fuel 8 r3 t ds h = .ok .normal (upd t 5 (.fn 32 [] [t 2])) (.fn 32 [] [t 2] :: ds) h) ∧
    (∀ call fuel t h, execR Try.prog call fuel 8 y (Ex × T) t h okK = arb (.val (t 0) h) call fun v h1 => arb (clvR Try.prog v [] h1) call fun v2 h2 => arb (stR 1 h2 (t 2) (.int .i64 0)) call fun _ h3 => okK .ret (upd (upd t 6 v) 7 v2) h3) ∧ wr y 2 = false := by
  refine ⟨(codeOf Try.f7).fst, (codeOf Try.f7).snd.fst, (codeOf Try.f7).snd.snd.fst, (codeOf Try.f7).snd.snd.snd, ?_, ⟨?_, ?_, ?_, ?_⟩, fun _ _ _ _ => ?_, fun _ _ _ _ => ?_, fun _ _ _ _ _ => ?_, fun _ _ _ _ => ?_, ?_⟩ <;> kernel_rfl

theorem fn_nil (o1 o2 : Operand) (g : FuncId) (a b : List AVal) : aBin Try.prog .eql 1 o1 o2 (.fn g a b) .nilf = some (.bool false) := by kernel_rfl

theorem parts32 : ∃ id ops c1 r2 c3 r5, Try.f32.body = some (.seq (.region id ops false) (.seq c1 (.seq r2 (.seq c3 r5)))) ∧ topOp isRec (.seq (.region id ops false) (.seq c1 (.seq r2 (.seq c3 r5)))) = true ∧
    (∀ call v h t, seqOpsS Try.prog call 16 ops ops.toList t (.pan v false) h = .ok (upd (upd t 4 v) 1 v, .pan v true) h) ∧
    (∀ call h t, seqOpsS Try.prog call 16 ops ops.toList t .ret h = .ok (upd (upd t 4 .nili) 1 .nili, .ret) h) ∧
    (∀ call fuel t h, execR Try.prog call fuel 16 (.seq c1 (.seq r2 (.seq c3 r5))) (Ex × T) (upd (upd t 4 .nili) 1 .nili) h okK = okK .ret (upd (upd (upd (upd t 4 .nili) 1 .nili) 5 .nili) 6 (.bool true)) h) ∧
    (∀ call fuel t h e, execR Try.prog call fuel 16 (.seq c1 (.seq r2 (.seq c3 r5))) (Ex × T) (upd (upd t 4 (.iface 22 (.int .i64 e))) 1 (.iface 22 (.int .i64 e))) h okK = arb (stR 1 h (t 0) (.int .i64 e)) call fun _ h1 =>
      okK .normal (upd (upd (upd (upd (upd (upd (upd (upd (upd (upd (upd (upd (upd (upd t 4 (.iface 22 (.int .i64 e))) 1 (.iface 22 (.int .i64 e))) 5 (.iface 22 (.int .i64 e))) 6 (.bool false)) 8 (.iface 22 (.int .i64 e))) 9 (.tup [.int .i64 e, .bool true])) 7 (.tup [.int .i64 e, .bool true]))
        10 (.int .i64 e)) 11 (.bool true)) 2 (.int .i64 e)) 3 (.bool true)) 12 (.bool true)) 13 (.bool false)) 15 (.int .i64 e)) h1) ∧
    (∀ call fuel t h n, execR Try.prog call fuel 16 (.seq c1 (.seq r2 (.seq c3 r5))) (Ex × T) (upd (upd t 4 (.iface 3 (.int .i64 n))) 1 (.iface 3 (.int .i64 n))) h okK = .pan (.iface 3 (.int .i64 n)) h) ∧
    (∀ call fuel t h s, execR Try.prog call fuel 16 (.seq c1 (.seq r2 (.seq c3 r5))) (Ex × T) (upd (upd t 4 (.iface 9 (.str s))) 1 (.iface 9 (.str s))) h okK = .pan (.iface 9 (.str s)) h) := by
  refine ⟨0, _, (codeOf Try.f32).snd.fst, (codeOf Try.f32).snd.snd.fst, (codeOf Try.f32).snd.snd.snd.fst, (codeOf Try.f32).snd.snd.snd.snd, rfl, ?_, fun _ _ _ _ => ?_, fun _ _ _ => ?_, fun _ _ _ _ => ?_, fun _ _ _ _ _ => ?_, fun _ _ _ _ _ => ?_, fun _ _ _ _ _ => ?_⟩ <;> kernel_rfl

theorem none32 (t : T) (h : Heap) : aResults Try.prog Try.f32 t h = some (.tup []) := by kernel_rfl

section
variable {call : Nat → FuncId → List AVal → Heap → Res AVal} {h : Heap} {b : Nat}

theorem d32_ret {V : AVal → Heap → Prop} (p : AVal) : TellsV V (fun m => dcall Try.prog (call m) m 32 [p] .ret h) fun u h' => u = .ret ∧ h' = h := by
  obtain ⟨id, ops, c1, r2, c3, r5, hb, hr, s1, s2, e1, e2, e3, e4⟩ := parts32
  refine TV.mono (TV.dcall (Q := fun h' => h' = h) Try.func32 hb hr (fun m => s2 (call m) h _) ?_) (fun u h' k => k) fun _ _ k => k
  simp only [show ∀ m t, execR Try.prog (call m) m (List.length [p] + (Try.f32.ntmps - List.length [p])) (.seq c1 (.seq r2 (.seq c3 r5))) (Ex × T) t h okK = execR Try.prog (call m) m 16 (.seq c1 (.seq r2 (.seq c3 r5))) (Ex × T) t h okK from fun _ _ => rfl, e1]
  exact TV.ok ⟨.inr rfl, ⟨_, none32 _ _⟩, rfl⟩

theorem d32_err {V : AVal → Heap → Prop} {x : AVal} {e : Int} (o : Ob h b [x]) : TellsV V (fun m => dcall Try.prog (call m) m 32 [.ptr b 0] (.pan (.iface 22 (.int .i64 e)) false) h) fun u h' => u = .pan (.iface 22 (.int .i64 e)) true ∧ Ob h' b [.int .i64 e] ∧ Ext [b] h h' := by
  obtain ⟨id, ops, c1, r2, c3, r5, hb, hr, s1, s2, e1, e2, e3, e4⟩ := parts32
  refine TV.dcall (Q := fun h' => Ob h' b [.int .i64 e] ∧ Ext [b] h h') Try.func32 hb hr (fun m => s1 (call m) _ h _) ?_
  simp only [show ∀ m t, execR Try.prog (call m) m (List.length [AVal.ptr b 0] + (Try.f32.ntmps - List.length [AVal.ptr b 0])) (.seq c1 (.seq r2 (.seq c3 r5))) (Ex × T) t h okK = execR Try.prog (call m) m 16 (.seq c1 (.seq r2 (.seq c3 r5))) (Ex × T) t h okK from fun _ _ => rfl, e2, enterT_0]
  exact TV.st1 o rfl rfl (by simp) fun h' o' x => TV.ok ⟨.inl rfl, ⟨_, none32 _ _⟩, by simpa using o', x⟩

theorem d32_oth {Q : Ab.Mode → Heap → Prop} {v : AVal} (p : AVal) (hv : (∃ n, v = .iface 3 (.int .i64 n)) ∨ ∃ s, v = .iface 9 (.str s)) : TellsV (fun v' h' => v' = v ∧ h' = h) (fun m => dcall Try.prog (call m) m 32 [p] (.pan v false) h) Q := by
  obtain ⟨id, ops, c1, r2, c3, r5, hb, hr, s1, s2, e1, e2, e3, e4⟩ := parts32
  refine TV.mono (TV.dcall (Q := fun _ => False) Try.func32 hb hr (fun m => s1 (call m) _ h _) ?_) (fun u h' k => k.2.elim) fun _ _ k => k
  rcases hv with ⟨n, rfl⟩ | ⟨s, rfl⟩
  · simp only [show ∀ m t, execR Try.prog (call m) m (List.length [p] + (Try.f32.ntmps - List.length [p])) (.seq c1 (.seq r2 (.seq c3 r5))) (Ex × T) t h okK = execR Try.prog (call m) m 16 (.seq c1 (.seq r2 (.seq c3 r5))) (Ex × T) t h okK from fun _ _ => rfl, e3]
    exact TV.pan ⟨rfl, rfl⟩
  · simp only [show ∀ m t, execR Try.prog (call m) m (List.length [p] + (Try.f32.ntmps - List.length [p])) (.seq c1 (.seq r2 (.seq c3 r5))) (Ex × T) t h okK = execR Try.prog (call m) m 16 (.seq c1 (.seq r2 (.seq c3 r5))) (Ex × T) t h okK from fun _ _ => rfl, e4]
    exact TV.pan ⟨rfl, rfl⟩
end

theorem res7 {t : T} {h : Heap} {b : Nat} {x : AVal} (ht : t 2 = .ptr b 0) (o : Ob h b [x]) : aResults Try.prog Try.f7 t h = some x := by
  have hr : Try.f7.results.toList = [.cell 2 22] := by kernel_rfl
  have hl : aLoad Try.prog h 22 (.ptr b 0) = ld1 h (.ptr b 0) := by kernel_rfl
  simp only [aResults, hr, aResultL, aResult, ht, hl, ld1, Heap.cell, o.1]
  rfl

/-- trap.Run. -/
theorem run_tellsO {X : XTab} (hX : OnlyKnown X) {g : FuncId} {a b : List AVal} (hg : enters Try.prog g = true) {h : Heap} {S : List Nat} (hS : ∀ x ∈ S, x < h.next) {V : AVal → Heap → Prop} {Q : Heap → Prop}
    (hb : ∀ h1, Ext [] h h1 → h1.next = h.next + 1 → Ob h1 h.next [.int .i64 0] → TellsV (fun v h2 => Ext S h1 h2 ∧ V v h2) (fun m => acallX Try.prog X m g (a ++ [] ++ b) h1) fun _ h2 => Ext S h1 h2 ∧ Q h2)
    (hV : ∀ v h2, V v h2 → (∃ e, v = .iface 22 (.int .i64 e)) ∨ (∃ n, v = .iface 3 (.int .i64 n)) ∨ ∃ s, v = .iface 9 (.str s)) :
    TellsV (fun v h3 => (∀ e, v ≠ .iface 22 (.int .i64 e)) ∧ V v h3 ∧ Ext S h h3) (fun m => acallX Try.prog X m 7 [.fn g a b] h) fun r h3 =>
      Ext S h h3 ∧ ∃ h2, Ext [h.next] h2 h3 ∧ (r = .int .i64 0 ∧ Q h2 ∨ ∃ e, r = .int .i64 e ∧ V (.iface 22 (.int .i64 e)) h2) := by
  obtain ⟨r0, c1, r3, y, hbody, ⟨d0, d1, d3, dy⟩, e0, e1, e3, ey, wy⟩ := parts7
  have top2 : ∀ {x y : Code}, topOp isDef x = true → topOp isDef (.seq x y) = true := fun k => by simp only [topOp, k, Bool.true_or]
  have top1 : ∀ {x y : Code}, topOp isDef y = true → topOp isDef (.seq x y) = true := fun k => by simp only [topOp, k, Bool.or_true]
  have q3 : topOp isDef (.seq r3 y) = true := top2 d3
  have q1 : topOp isDef (.seq c1 (.seq r3 y)) = true := top1 q3
  have q0 : topOp isDef (.seq r0 (.seq c1 (.seq r3 y))) = true := top1 q1
  have hnt : (List.length [AVal.fn g a b] + (Try.f7.ntmps - List.length [AVal.fn g a b])) = 8 := rfl
  refine TV.deferred Try.func7 (hX 7 _ rfl) hbody (by unfold defers; rw [hbody]; exact q0) ?_
  rw [hnt]
  refine TD.seq q0 (TD.plain (Q := fun r h' => r.1 = .normal ∧ r.2 = upd (enterT [.fn g a b]) 2 (.ptr h.next 0) ∧ Ob h' h.next [.int .i64 0] ∧ Ext [] h h' ∧ h'.next = h.next + 1) (V := fun _ _ => False) d0 ?_ ?_ fun _ _ => False.elim)
  · simp only [e0]
    exact TV.ok ⟨rfl, rfl, Ob.new _ _, Ext.new _ _ _, next_new' _ _ _⟩
  rintro ex t1 h1 ⟨rfl, rfl, o1, x1, n1⟩
  dsimp only
  refine TD.seq q1 (TD.plain (Q := fun r h' => r.1 = .normal ∧ r.2 = upd (upd (upd (enterT [.fn g a b]) 2 (.ptr h.next 0)) 3 (.fn g a b)) 4 (.bool false) ∧ h' = h1) (V := fun _ _ => False) d1 ?_ ?_ fun _ _ => False.elim)
  · simp [e1, fn_nil]
    exact TV.ok ⟨rfl, rfl, rfl⟩
  rintro ex t2 h2 ⟨rfl, rfl, rfl⟩
  dsimp only
  refine TD.seq q3 (TD.eq (fun m => e3 _ _ _ _ _) ?_)
  dsimp only
  refine TD.plain (Q := fun r h3 => r.1 = .ret ∧ r.2 2 = .ptr h.next 0 ∧ Ob h3 h.next [.int .i64 0] ∧ ∃ h2', Ext S h2 h2' ∧ Q h2' ∧ Ext [h.next] h2' h3) (V := fun v h3 => Ob h3 h.next [.int .i64 0] ∧ Ext S h2 h3 ∧ V v h3) dy ?_ ?_ ?_
  · simp [ey]
    have hn : h.next ∉ S := fun q => Nat.lt_irrefl _ (hS _ q)
    simp only [clvR, hg, if_true, arb_call]
    refine TV.bind (hb h2 x1 n1 o1) (fun v h3 k => ⟨o1.ext k.1 hn, k.1, k.2⟩) fun v h3 ⟨k1, k2⟩ => ?_
    refine TV.st1 (o1.ext k1 hn) rfl rfl (by simp) fun h4 o4 x4 => TV.ok ⟨rfl, by simp, by simpa using o4, h3, k1, k2, x4⟩
  · rintro ex t3 h3 ⟨rfl, ht, o3, h2', k1, k2, k3⟩
    refine ⟨.inr rfl, TV.leave (by kernel_rfl) (d32_ret (V := fun _ _ => False) _) ?_ fun _ _ => False.elim⟩
    rintro u h4 ⟨rfl, rfl⟩
    refine TV.leave_ret (res7 ht o3) ⟨?_, h2', k3, .inl ⟨rfl, k2⟩⟩
    exact ((x1.of (S := S)).trans k1).then k3 (by simp)
  · rintro v h3 ⟨o3, k1, k2⟩
    have ht : (fg y (upd (upd (upd (upd (enterT [.fn g a b]) 2 (.ptr h.next 0)) 3 (.fn g a b)) 4 (.bool false)) 5 (.fn 32 [] [(upd (upd (upd (enterT [.fn g a b]) 2 (.ptr h.next 0)) 3 (.fn g a b)) 4 (.bool false)) 2]))) 2 = .ptr h.next 0 := by
      unfold fg
      rw [wy]
      simp
    have xs : Ext S h h3 := (x1.of (S := S)).trans k1
    rcases hV v h3 k2 with ⟨e, rfl⟩ | hoth
    · refine TV.leave (by kernel_rfl) (d32_err (V := fun _ _ => False) o3) ?_ fun _ _ => False.elim
      rintro u h4 ⟨rfl, o4, x4⟩
      exact TV.leave_ret (res7 ht o4) ⟨xs.then x4 (by simp), h3, x4, .inr ⟨e, rfl, k2⟩⟩
    · refine TV.leave (by kernel_rfl) (d32_oth (Q := fun _ _ => False) _ hoth) (fun _ _ => False.elim) ?_
      rintro v h4 ⟨rfl, rfl⟩
      refine TV.leave_pan ⟨fun e q => ?_, k2, xs⟩
      rcases hoth with ⟨n, rfl⟩ | ⟨s, rfl⟩
      · cases q
      · cases q
theorem run_tells {X : XTab} (hX : OnlyKnown X) {g : FuncId} {a b : List AVal} (hg : enters Try.prog g = true) {h : Heap} {S : List Nat} (hS : ∀ x ∈ S, x < h.next) {V : AVal → Heap → Prop} {Q : Heap → Prop}
    (hb : ∀ h1, Ext [] h h1 → h1.next = h.next + 1 → TellsV (fun v h2 => Ext S h1 h2 ∧ V v h2) (fun m => acallX Try.prog X m g (a ++ [] ++ b) h1) fun _ h2 => Ext S h1 h2 ∧ Q h2)
    (hV : ∀ v h2, V v h2 → (∃ e, v = .iface 22 (.int .i64 e)) ∨ (∃ n, v = .iface 3 (.int .i64 n)) ∨ ∃ s, v = .iface 9 (.str s)) :
    TellsV (fun v h3 => (∀ e, v ≠ .iface 22 (.int .i64 e)) ∧ V v h3 ∧ Ext S h h3) (fun m => acallX Try.prog X m 7 [.fn g a b] h) fun r h3 =>
      Ext S h h3 ∧ ∃ h2, Ext [h.next] h2 h3 ∧ (r = .int .i64 0 ∧ Q h2 ∨ ∃ e, r = .int .i64 e ∧ V (.iface 22 (.int .i64 e)) h2) :=
  run_tellsO hX hg hS (fun h1 x n _ => hb h1 x n) hV
end Go.Proofs.Ytepdlgcoehpnbaa
