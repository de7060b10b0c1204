/-
  Law TrapPasses: the pieces of its functions.
-/
import Derived.Test.YtepdlgcoehpnbaaRun0
import Derived.Test.YtepdlgcoehpnbaaHandP
import Derived.Test.YtepdlgcoehpnbaaOps
set_option linter.unusedVariables false
set_option linter.unusedSimpArgs false
namespace Go.Proofs.Ytepdlgcoehpnbaa
open Go.Ab

/-- "text ". -/
abbrev textB : ByteArray := Go.Ab.bs [116, 101, 120, 116, 32]

theorem parts25 : ∃ r0 r1 z, Try.f25.body = some (.seq r0 (.seq r1 z)) ∧ (topOp isDef r0 = false ∧ topOp isDef r1 = true ∧ topOp isDef z = false) ∧
    (∀ call fuel t h, execR Try.prog call fuel 18 r0 (Ex × T) t h okK = arb (boxR (t 0) h) call fun v h => okK .normal (upd t 5 v) h) ∧
    (∀ call fuel t ds h, execD Try.prog call fuel 18 r1 t ds h = .ok .normal (upd t 6 (.fn 26 [] [t 1, t 5])) (.fn 26 [] [t 1, t 5] :: ds) h) ∧
    (∀ call fuel t h, execR Try.prog call fuel 18 z (Ex × T) t h okK = (fun (Y : T → Heap → Res (Ex × T)) =>
      arb (.of (ld1 h (t 5)) h) call fun a h1 => arb (.of (ld1 h1 (t 2)) h1) call fun b h2 => arb (.of (aBin Try.prog .eql 3 (.tmp 7) (.tmp 8) a b) h2) call fun c h3 => cb c (
        arb (.of (ld1 h3 (t 3)) h3) call fun v1 h4 => arb (.of (aBin Try.prog .add 9 (.const (.string textB)) (.tmp 10) (.str textB) v1) h4) call fun v2 h5 => arb (.val (.iface 9 v2) h5) call fun v3 h6 => arb (pncR v3 h6) call fun v4 h7 =>
          Y (upd (upd (upd (upd (upd (upd t 7 a) 8 b) 9 c) 10 v1) 11 v2) 12 v3) h7) (Y (upd (upd (upd t 7 a) 8 b) 9 c) h3))
      fun t h => arb (.val (.fn 27 [] [t 4, t 5]) h) call fun v h1 => arb (.call 7 [v] h1) call fun v2 h2 => arb (.of (ld1 h2 (t 1)) h2) call fun a h3 => arb (bslR 1 [.int .i64 0] 1 h3 [(0, 1, .int .i64 (-1))]) call fun b h4 => arb (appR 1 8 h4 a b) call fun c h5 =>
        arb (stR 1 h5 (t 1) c) call fun _ h6 => okK .normal (upd (upd (upd (upd (upd t 13 v) 14 v2) 15 a) 16 b) 17 c) h6) := by
  refine ⟨(codeOf Try.f25).fst, (codeOf Try.f25).snd.fst, (codeOf Try.f25).snd.snd, ?_, ⟨?_, ?_, ?_⟩, fun _ _ _ _ => ?_, fun _ _ _ _ _ => ?_, fun _ _ _ _ => ?_⟩ <;> kernel_rfl

theorem parts28 : ∃ r0 y, Try.f28.body = some (.seq r0 y) ∧ (topOp isDef r0 = true ∧ topOp isDef y = false) ∧
    (∀ call fuel t ds h, execD Try.prog call fuel 5 r0 t ds h = .ok .normal (upd t 2 (.fn 29 [] [t 0])) (.fn 29 [] [t 0] :: ds) h) ∧
    (∀ call fuel t h, execR Try.prog call fuel 5 y (Ex × T) t h okK = arb (.val (.fn 30 [] [t 1]) h) call fun v h1 => arb (.call 7 [v] h1) call fun v2 h2 => okK .normal (upd (upd t 3 v) 4 v2) h2) := by
  refine ⟨(codeOf Try.f28).fst, (codeOf Try.f28).snd, ?_, ⟨?_, ?_⟩, fun _ _ _ _ _ => ?_, fun _ _ _ _ => ?_⟩ <;> kernel_rfl

theorem parts29 : ∃ id ops y, Try.f29.body = some (.seq (.region id ops false) y) ∧ topOp isRec (.seq (.region id ops false) y) = true ∧
    (∀ call s h t, seqOpsS Try.prog call 10 ops ops.toList t (.pan (.iface 9 (.str s)) false) h = .ok (upd (upd (upd (upd (upd (upd (upd t 4 (.iface 9 (.str s))) 5 (.tup [.str s, .bool true])) 3 (.tup [.str s, .bool true])) 6 (.str s)) 7 (.bool true)) 1 (.str s)) 2 (.bool true), .pan (.iface 9 (.str s)) true) h) ∧
    (∀ call fuel s t h, execR Try.prog call fuel 10 y (Ex × T) (upd (upd (upd (upd (upd (upd (upd t 4 (.iface 9 (.str s))) 5 (.tup [.str s, .bool true])) 3 (.tup [.str s, .bool true])) 6 (.str s)) 7 (.bool true)) 1 (.str s)) 2 (.bool true)) h okK =
      arb (stR 1 h (t 0) (.str s)) call fun _ h1 => okK .normal (upd (upd (upd (upd (upd (upd (upd (upd (upd t 4 (.iface 9 (.str s))) 5 (.tup [.str s, .bool true])) 3 (.tup [.str s, .bool true])) 6 (.str s)) 7 (.bool true)) 1 (.str s)) 2 (.bool true)) 8 (.bool true)) 9 (.str s)) h1) := by
  refine ⟨0, _, (codeOf Try.f29).snd, rfl, ?_, fun _ _ _ _ => ?_, fun _ _ _ _ _ => ?_⟩ <;> kernel_rfl

theorem none29 (t : T) (h : Heap) : aResults Try.prog Try.f29 t h = some (.tup []) := by kernel_rfl
theorem none28 (t : T) (h : Heap) : aResults Try.prog Try.f28 t h = some (.tup []) := by kernel_rfl
end Go.Proofs.Ytepdlgcoehpnbaa
