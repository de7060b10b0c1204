/-
  Functions of float in the form of YtbolfamaffbnnaaABS (printed by a program of ours, gen.lean).
-/
import Derived.Test.YtbolfamaffbnnaaSIds
set_option linter.unusedVariables false
namespace Go.Proofs.Ytbolfamaffbnnaa
open Go.Ab
/-! ### precentor/float.Same -/

def S_float_Same (P : Program) (call : FuncId → List AVal → Heap → Res AVal) (fuel : Nat) (a_a0 b_a1 : AVal) (h : Heap) : Res AVal :=
lt (retK P [.tmp 4]) fun k =>
arb (.val (.bool false) h) call fun v_0 h1 =>
arb (.val a_a0 h1) call fun v_2 h3 =>
arb (.call F_float_Bits [v_2] h3) call fun v_4 h5 =>
arb (.val b_a1 h5) call fun v_6 h7 =>
arb (.call F_float_Bits [v_6] h7) call fun v_8 h9 =>
arb (.of (aBin P .eql 111 (.tmp 6) (.tmp 8) v_4 v_8) h9) call fun v_10 h11 =>
arb (.val v_10 h11) call fun v_12 h13 =>
k .ret (upd (upd (upd (upd (upd (upd (upd (enterT [a_a0, b_a1]) 4 v_0) 5 v_2) 6 v_4) 7 v_6) 8 v_8) 9 v_10) 4 v_12) h13
theorem E_float_Same (call : FuncId → List AVal → Heap → Res AVal) (fuel : Nat) (a_a0 b_a1 : AVal) (h : Heap) : bodyR Try.prog call fuel Try.f70 [a_a0, b_a1] h = S_float_Same Try.prog call fuel a_a0 b_a1 h := by kernel_rfl
theorem R_float_Same {X : XTab} (a_a0 b_a1 : AVal) {h : Heap} {Q : AVal → Heap → Prop} (hx : X F_float_Same [a_a0, b_a1] = none) (q : Tells (fun m => S_float_Same Try.prog (acallX Try.prog X m) m a_a0 b_a1 h) Q) :
    Tells (fun m => acallX Try.prog X m F_float_Same [a_a0, b_a1] h) Q :=
  Tells.later (q.le fun m => (E_float_Same (acallX Try.prog X m) m a_a0 b_a1 h) ▸ acallX_le Try.func70 hx m h)

/-! ### precentor/float.Bits -/
def J_float_Bits_1 (P : Program) (call : FuncId → List AVal → Heap → Res AVal) (fuel : Nat) (k : Kn (AVal)) (t : T) (h : Heap) : Res (AVal) :=
arb (.val (t 0) h) call fun v_2 h3 =>
arb (.of (aNat P F_math_Float64bits [v_2]) h3) call fun v_4 h5 =>
arb (.val v_4 h5) call fun v_6 h7 =>
k .ret (upd (upd (upd t 7 v_2) 8 v_4) 2 v_6) h7

def J_float_Bits_0 (P : Program) (call : FuncId → List AVal → Heap → Res AVal) (fuel : Nat) (k : Kn (AVal)) (t : T) (h : Heap) : Res (AVal) :=
lt (sqK (J_float_Bits_1 P call fuel k) k) fun k8 =>
arb (.val (t 0) h) call fun v_9 h10 =>
arb (.of (aBin P .eql 33 (.tmp 5) (.const (.float .f64 0)) v_9 (.flt .f64 0)) h10) call fun v_11 h12 =>
cb v_11 (
arb (.val (.int .u64 0) h12) call fun v_13 h14 =>
k8 .ret (upd (upd (upd t 5 v_9) 6 v_11) 2 v_13) h14) (
k8 .normal (upd (upd t 5 v_9) 6 v_11) h12)

def S_float_Bits (P : Program) (call : FuncId → List AVal → Heap → Res AVal) (fuel : Nat) (x_a0 : AVal) (h : Heap) : Res AVal :=
lt (retK P [.tmp 2]) fun k =>
arb (.val (.int .u64 0) h) call fun v_0 h1 =>
lt (sqK (J_float_Bits_0 P call fuel k) k) fun k15 =>
arb (.val x_a0 h1) call fun v_16 h17 =>
arb (.call F_math_IsNaN [v_16] h17) call fun v_18 h19 =>
cb v_18 (
arb (.val (.int .u64 9221120237041090560) h19) call fun v_20 h21 =>
k15 .ret (upd (upd (upd (upd (enterT [x_a0]) 2 v_0) 3 v_16) 4 v_18) 2 v_20) h21) (
k15 .normal (upd (upd (upd (enterT [x_a0]) 2 v_0) 3 v_16) 4 v_18) h19)
theorem E_float_Bits (call : FuncId → List AVal → Heap → Res AVal) (fuel : Nat) (x_a0 : AVal) (h : Heap) : bodyR Try.prog call fuel Try.f71 [x_a0] h = S_float_Bits Try.prog call fuel x_a0 h := by kernel_rfl
theorem R_float_Bits {X : XTab} (x_a0 : AVal) {h : Heap} {Q : AVal → Heap → Prop} (hx : X F_float_Bits [x_a0] = none) (q : Tells (fun m => S_float_Bits Try.prog (acallX Try.prog X m) m x_a0 h) Q) :
    Tells (fun m => acallX Try.prog X m F_float_Bits [x_a0] h) Q :=
  Tells.later (q.le fun m => (E_float_Bits (acallX Try.prog X m) m x_a0 h) ▸ acallX_le Try.func71 hx m h)


end Go.Proofs.Ytbolfamaffbnnaa
