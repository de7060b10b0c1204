/-
  Functions of math in the form of YtbolfamaffbnnaaABS (printed by a program of ours, gen.lean).
-/
import Derived.Test.YtbolfamaffbnnaaSIds
set_option linter.unusedVariables false
namespace Go.Proofs.Ytbolfamaffbnnaa
open Go.Ab
/-! ### math.Copysign -/

def S_math_Copysign (P : Program) (call : FuncId → List AVal → Heap → Res AVal) (fuel : Nat) (f_a0 sign_a1 : AVal) (h : Heap) : Res AVal :=
lt (retK P [.tmp 4]) fun k =>
arb (.val (.flt .f64 0) h) call fun v_0 h1 =>
arb (.val f_a0 h1) call fun v_2 h3 =>
arb (.of (aNat P F_math_Float64bits [v_2]) h3) call fun v_4 h5 =>
arb (.of (aBin P .andNot 111 (.tmp 6) (.const (.int .u64 9223372036854775808)) v_4 (.int .u64 9223372036854775808)) h5) call fun v_6 h7 =>
arb (.val sign_a1 h7) call fun v_8 h9 =>
arb (.of (aNat P F_math_Float64bits [v_8]) h9) call fun v_10 h11 =>
arb (.of (aBin P .and 111 (.tmp 9) (.const (.int .u64 9223372036854775808)) v_10 (.int .u64 9223372036854775808)) h11) call fun v_12 h13 =>
arb (.of (aBin P .or 111 (.tmp 7) (.tmp 10) v_6 v_12) h13) call fun v_14 h15 =>
arb (.of (aNat P F_math_Float64frombits [v_14]) h15) call fun v_16 h17 =>
arb (.val v_16 h17) call fun v_18 h19 =>
k .ret (upd (upd (upd (upd (upd (upd (upd (upd (upd (upd (enterT [f_a0, sign_a1]) 4 v_0) 5 v_2) 6 v_4) 7 v_6) 8 v_8) 9 v_10) 10 v_12) 11 v_14) 12 v_16) 4 v_18) h19
theorem E_math_Copysign (call : FuncId → List AVal → Heap → Res AVal) (fuel : Nat) (f_a0 sign_a1 : AVal) (h : Heap) : bodyR Try.prog call fuel Try.f62 [f_a0, sign_a1] h = S_math_Copysign Try.prog call fuel f_a0 sign_a1 h := by kernel_rfl
theorem R_math_Copysign {X : XTab} (f_a0 sign_a1 : AVal) {h : Heap} {Q : AVal → Heap → Prop} (hx : X F_math_Copysign [f_a0, sign_a1] = none) (q : Tells (fun m => S_math_Copysign Try.prog (acallX Try.prog X m) m f_a0 sign_a1 h) Q) :
    Tells (fun m => acallX Try.prog X m F_math_Copysign [f_a0, sign_a1] h) Q :=
  Tells.later (q.le fun m => (E_math_Copysign (acallX Try.prog X m) m f_a0 sign_a1 h) ▸ acallX_le Try.func62 hx m h)

/-! ### math.NaN -/

def S_math_NaN (P : Program) (call : FuncId → List AVal → Heap → Res AVal) (fuel : Nat) (h : Heap) : Res AVal :=
lt (retK P [.tmp 0]) fun k =>
arb (.val (.flt .f64 0) h) call fun v_0 h1 =>
arb (.of (aNat P F_math_Float64frombits [(.int .u64 9221120237041090561)]) h1) call fun v_2 h3 =>
arb (.val v_2 h3) call fun v_4 h5 =>
k .ret (upd (upd (upd (enterT []) 0 v_0) 1 v_2) 0 v_4) h5
theorem E_math_NaN (call : FuncId → List AVal → Heap → Res AVal) (fuel : Nat) (h : Heap) : bodyR Try.prog call fuel Try.f63 [] h = S_math_NaN Try.prog call fuel  h := by kernel_rfl
theorem R_math_NaN {X : XTab} {h : Heap} {Q : AVal → Heap → Prop} (hx : X F_math_NaN [] = none) (q : Tells (fun m => S_math_NaN Try.prog (acallX Try.prog X m) m  h) Q) :
    Tells (fun m => acallX Try.prog X m F_math_NaN [] h) Q :=
  Tells.later (q.le fun m => (E_math_NaN (acallX Try.prog X m) m  h) ▸ acallX_le Try.func63 hx m h)

/-! ### math.Inf -/
def J_math_Inf_0 (P : Program) (call : FuncId → List AVal → Heap → Res AVal) (fuel : Nat) (k : Kn (AVal)) (t : T) (h : Heap) : Res (AVal) :=
arb (.val (t 3) h) call fun v_4 h5 =>
arb (.of (aNat P F_math_Float64frombits [v_4]) h5) call fun v_6 h7 =>
arb (.val v_6 h7) call fun v_8 h9 =>
k .ret (upd (upd (upd t 6 v_4) 7 v_6) 2 v_8) h9

def S_math_Inf (P : Program) (call : FuncId → List AVal → Heap → Res AVal) (fuel : Nat) (sign_a0 : AVal) (h : Heap) : Res AVal :=
lt (retK P [.tmp 2]) fun k =>
arb (.val (.flt .f64 0) h) call fun v_0 h1 =>
arb (.val (.int .u64 0) h1) call fun v_2 h3 =>
lt (sqK (J_math_Inf_0 P call fuel k) k) fun k10 =>
arb (.val sign_a0 h3) call fun v_11 h12 =>
arb (.of (aBin P .geq 3 (.tmp 4) (.const (.int .i64 0)) v_11 (.int .i64 0)) h12) call fun v_13 h14 =>
cb v_13 (
arb (.val (.int .u64 9218868437227405312) h14) call fun v_15 h16 =>
k10 .normal (upd (upd (upd (upd (upd (enterT [sign_a0]) 2 v_0) 3 v_2) 4 v_11) 5 v_13) 3 v_15) h16) (
arb (.val (.int .u64 18442240474082181120) h14) call fun v_17 h18 =>
k10 .normal (upd (upd (upd (upd (upd (enterT [sign_a0]) 2 v_0) 3 v_2) 4 v_11) 5 v_13) 3 v_17) h18)
theorem E_math_Inf (call : FuncId → List AVal → Heap → Res AVal) (fuel : Nat) (sign_a0 : AVal) (h : Heap) : bodyR Try.prog call fuel Try.f64 [sign_a0] h = S_math_Inf Try.prog call fuel sign_a0 h := by kernel_rfl
theorem R_math_Inf {X : XTab} (sign_a0 : AVal) {h : Heap} {Q : AVal → Heap → Prop} (hx : X F_math_Inf [sign_a0] = none) (q : Tells (fun m => S_math_Inf Try.prog (acallX Try.prog X m) m sign_a0 h) Q) :
    Tells (fun m => acallX Try.prog X m F_math_Inf [sign_a0] h) Q :=
  Tells.later (q.le fun m => (E_math_Inf (acallX Try.prog X m) m sign_a0 h) ▸ acallX_le Try.func64 hx m h)

/-! ### math.IsNaN -/

def S_math_IsNaN (P : Program) (call : FuncId → List AVal → Heap → Res AVal) (fuel : Nat) (f_a0 : AVal) (h : Heap) : Res AVal :=
lt (retK P [.tmp 2]) fun k =>
arb (.val (.bool false) h) call fun is_0 h1 =>
arb (.val f_a0 h1) call fun v_2 h3 =>
arb (.val f_a0 h3) call fun v_4 h5 =>
arb (.of (aBin P .neq 33 (.tmp 3) (.tmp 4) v_2 v_4) h5) call fun v_6 h7 =>
arb (.val v_6 h7) call fun is_8 h9 =>
k .ret (upd (upd (upd (upd (upd (enterT [f_a0]) 2 is_0) 3 v_2) 4 v_4) 5 v_6) 2 is_8) h9
theorem E_math_IsNaN (call : FuncId → List AVal → Heap → Res AVal) (fuel : Nat) (f_a0 : AVal) (h : Heap) : bodyR Try.prog call fuel Try.f72 [f_a0] h = S_math_IsNaN Try.prog call fuel f_a0 h := by kernel_rfl
theorem R_math_IsNaN {X : XTab} (f_a0 : AVal) {h : Heap} {Q : AVal → Heap → Prop} (hx : X F_math_IsNaN [f_a0] = none) (q : Tells (fun m => S_math_IsNaN Try.prog (acallX Try.prog X m) m f_a0 h) Q) :
    Tells (fun m => acallX Try.prog X m F_math_IsNaN [f_a0] h) Q :=
  Tells.later (q.le fun m => (E_math_IsNaN (acallX Try.prog X m) m f_a0 h) ▸ acallX_le Try.func72 hx m h)


end Go.Proofs.Ytbolfamaffbnnaa
