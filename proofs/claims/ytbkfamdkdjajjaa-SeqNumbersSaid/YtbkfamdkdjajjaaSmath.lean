/-
  Functions of math in the form of YtbkfamdkdjajjaaABS (printed by a program of ours, gen.lean).
-/
import Derived.Test.YtbkfamdkdjajjaaSIds
set_option linter.unusedVariables false
namespace Go.Proofs.Ytbkfamdkdjajjaa
open Go.Ab
/-! ### math.Copysign -/

def S_math_Copysign (P : Program) (call : FuncId → List AVal → Heap → Res AVal) (fuel : Nat) (f_a0 sign_a1 : AVal) (h : Heap) : Res AVal :=
lt (retK P [.tmp 4]) fun k =>
arb (.val (.flt .f64 0) h) call fun v_0 h1 =>
arb (.val f_a0 h1) call fun v_2 h3 =>
arb (.of (aNat P F_math_Float64bits [v_2]) h3) call fun v_4 h5 =>
arb (.of (aBin P .andNot 111 (.tmp 6) (.const (.int .u64 9223372036854775808)) v_4 (.int .u64 9223372036854775808)) h5) call fun v_6 h7 =>
arb (.val sign_a1 h7) call fun v_8 h9 =>
arb (.of (aNat P F_math_Float64bits [v_8]) h9) call fun v_10 h11 =>
arb (.of (aBin P .and 111 (.tmp 9) (.const (.int .u64 9223372036854775808)) v_10 (.int .u64 9223372036854775808)) h11) call fun v_12 h13 =>
arb (.of (aBin P .or 111 (.tmp 7) (.tmp 10) v_6 v_12) h13) call fun v_14 h15 =>
arb (.of (aNat P F_math_Float64frombits [v_14]) h15) call fun v_16 h17 =>
arb (.val v_16 h17) call fun v_18 h19 =>
k .ret (upd (upd (upd (upd (upd (upd (upd (upd (upd (upd (enterT [f_a0, sign_a1]) 4 v_0) 5 v_2) 6 v_4) 7 v_6) 8 v_8) 9 v_10) 10 v_12) 11 v_14) 12 v_16) 4 v_18) h19
theorem E_math_Copysign (call : FuncId → List AVal → Heap → Res AVal) (fuel : Nat) (f_a0 sign_a1 : AVal) (h : Heap) : bodyR Try.prog call fuel Try.f60 [f_a0, sign_a1] h = S_math_Copysign Try.prog call fuel f_a0 sign_a1 h := by kernel_rfl
theorem R_math_Copysign {X : XTab} (f_a0 sign_a1 : AVal) {h : Heap} {Q : AVal → Heap → Prop} (hx : X F_math_Copysign [f_a0, sign_a1] = none) (q : Tells (fun m => S_math_Copysign Try.prog (acallX Try.prog X m) m f_a0 sign_a1 h) Q) :
    Tells (fun m => acallX Try.prog X m F_math_Copysign [f_a0, sign_a1] h) Q :=
  Tells.later (q.le fun m => (E_math_Copysign (acallX Try.prog X m) m f_a0 sign_a1 h) ▸ acallX_le Try.func60 hx m h)

/-! ### math.NaN -/

def S_math_NaN (P : Program) (call : FuncId → List AVal → Heap → Res AVal) (fuel : Nat) (h : Heap) : Res AVal :=
lt (retK P [.tmp 0]) fun k =>
arb (.val (.flt .f64 0) h) call fun v_0 h1 =>
arb (.of (aNat P F_math_Float64frombits [(.int .u64 9221120237041090561)]) h1) call fun v_2 h3 =>
arb (.val v_2 h3) call fun v_4 h5 =>
k .ret (upd (upd (upd (enterT []) 0 v_0) 1 v_2) 0 v_4) h5
theorem E_math_NaN (call : FuncId → List AVal → Heap → Res AVal) (fuel : Nat) (h : Heap) : bodyR Try.prog call fuel Try.f61 [] h = S_math_NaN Try.prog call fuel  h := by kernel_rfl
theorem R_math_NaN {X : XTab} {h : Heap} {Q : AVal → Heap → Prop} (hx : X F_math_NaN [] = none) (q : Tells (fun m => S_math_NaN Try.prog (acallX Try.prog X m) m  h) Q) :
    Tells (fun m => acallX Try.prog X m F_math_NaN [] h) Q :=
  Tells.later (q.le fun m => (E_math_NaN (acallX Try.prog X m) m  h) ▸ acallX_le Try.func61 hx m h)

/-! ### math.Inf -/
def J_math_Inf_0 (P : Program) (call : FuncId → List AVal → Heap → Res AVal) (fuel : Nat) (k : Kn (AVal)) (t : T) (h : Heap) : Res (AVal) :=
arb (.val (t 3) h) call fun v_4 h5 =>
arb (.of (aNat P F_math_Float64frombits [v_4]) h5) call fun v_6 h7 =>
arb (.val v_6 h7) call fun v_8 h9 =>
k .ret (upd (upd (upd t 6 v_4) 7 v_6) 2 v_8) h9

def S_math_Inf (P : Program) (call : FuncId → List AVal → Heap → Res AVal) (fuel : Nat) (sign_a0 : AVal) (h : Heap) : Res AVal :=
lt (retK P [.tmp 2]) fun k =>
arb (.val (.flt .f64 0) h) call fun v_0 h1 =>
arb (.val (.int .u64 0) h1) call fun v_2 h3 =>
lt (sqK (J_math_Inf_0 P call fuel k) k) fun k10 =>
arb (.val sign_a0 h3) call fun v_11 h12 =>
arb (.of (aBin P .geq 3 (.tmp 4) (.const (.int .i64 0)) v_11 (.int .i64 0)) h12) call fun v_13 h14 =>
cb v_13 (
arb (.val (.int .u64 9218868437227405312) h14) call fun v_15 h16 =>
k10 .normal (upd (upd (upd (upd (upd (enterT [sign_a0]) 2 v_0) 3 v_2) 4 v_11) 5 v_13) 3 v_15) h16) (
arb (.val (.int .u64 18442240474082181120) h14) call fun v_17 h18 =>
k10 .normal (upd (upd (upd (upd (upd (enterT [sign_a0]) 2 v_0) 3 v_2) 4 v_11) 5 v_13) 3 v_17) h18)
theorem E_math_Inf (call : FuncId → List AVal → Heap → Res AVal) (fuel : Nat) (sign_a0 : AVal) (h : Heap) : bodyR Try.prog call fuel Try.f62 [sign_a0] h = S_math_Inf Try.prog call fuel sign_a0 h := by kernel_rfl
theorem R_math_Inf {X : XTab} (sign_a0 : AVal) {h : Heap} {Q : AVal → Heap → Prop} (hx : X F_math_Inf [sign_a0] = none) (q : Tells (fun m => S_math_Inf Try.prog (acallX Try.prog X m) m sign_a0 h) Q) :
    Tells (fun m => acallX Try.prog X m F_math_Inf [sign_a0] h) Q :=
  Tells.later (q.le fun m => (E_math_Inf (acallX Try.prog X m) m sign_a0 h) ▸ acallX_le Try.func62 hx m h)

/-! ### math.Trunc -/
def J_math_Trunc_0 (P : Program) (call : FuncId → List AVal → Heap → Res AVal) (fuel : Nat) (k : Kn (AVal)) (t : T) (h : Heap) : Res (AVal) :=
arb (.val (t 0) h) call fun v_2 h3 =>
arb (.call F_math_trunc [v_2] h3) call fun v_4 h5 =>
arb (.val v_4 h5) call fun v_6 h7 =>
k .ret (upd (upd (upd t 5 v_2) 6 v_4) 2 v_6) h7

def S_math_Trunc (P : Program) (call : FuncId → List AVal → Heap → Res AVal) (fuel : Nat) (x_a0 : AVal) (h : Heap) : Res AVal :=
lt (retK P [.tmp 2]) fun k =>
arb (.val (.flt .f64 0) h) call fun v_0 h1 =>
lt (sqK (J_math_Trunc_0 P call fuel k) k) fun k8 =>
cb (.bool true) (
arb (.val x_a0 h1) call fun v_9 h10 =>
arb (.of (aNat P F_math_archTrunc [v_9]) h10) call fun v_11 h12 =>
arb (.val v_11 h12) call fun v_13 h14 =>
k8 .ret (upd (upd (upd (upd (enterT [x_a0]) 2 v_0) 3 v_9) 4 v_11) 2 v_13) h14) (
k8 .normal (upd (enterT [x_a0]) 2 v_0) h1)
theorem E_math_Trunc (call : FuncId → List AVal → Heap → Res AVal) (fuel : Nat) (x_a0 : AVal) (h : Heap) : bodyR Try.prog call fuel Try.f71 [x_a0] h = S_math_Trunc Try.prog call fuel x_a0 h := by kernel_rfl
theorem R_math_Trunc {X : XTab} (x_a0 : AVal) {h : Heap} {Q : AVal → Heap → Prop} (hx : X F_math_Trunc [x_a0] = none) (q : Tells (fun m => S_math_Trunc Try.prog (acallX Try.prog X m) m x_a0 h) Q) :
    Tells (fun m => acallX Try.prog X m F_math_Trunc [x_a0] h) Q :=
  Tells.later (q.le fun m => (E_math_Trunc (acallX Try.prog X m) m x_a0 h) ▸ acallX_le Try.func71 hx m h)

/-! ### math.trunc -/
def J_math_trunc_1 (P : Program) (call : FuncId → List AVal → Heap → Res AVal) (fuel : Nat) (k : Kn (AVal)) (t : T) (h : Heap) : Res (AVal) :=
arb (.val (t 3) h) call fun v_18 h19 =>
arb (.of (aNat P F_math_Float64frombits [v_18]) h19) call fun v_20 h21 =>
arb (.val v_20 h21) call fun v_22 h23 =>
k .ret (upd (upd (upd t 24 v_18) 25 v_20) 2 v_22) h23

def J_math_trunc_0 (P : Program) (call : FuncId → List AVal → Heap → Res AVal) (fuel : Nat) (k : Kn (AVal)) (t : T) (h : Heap) : Res (AVal) :=
arb (.val (t 0) h) call fun v_2 h3 =>
arb (.of (aNat P F_math_Float64bits [v_2]) h3) call fun v_4 h5 =>
arb (.val v_4 h5) call fun b_6 h7 =>
arb (.val b_6 h7) call fun v_8 h9 =>
arb (.of (aBin P .shr 111 (.tmp 12) (.const (.int .u64 52)) v_8 (.int .u64 52)) h9) call fun v_10 h11 =>
arb (.of (aBin P .and 129 (.tmp 13) (.const (.int .u64 2047)) v_10 (.int .u64 2047)) h11) call fun v_12 h13 =>
arb (.of (aBin P .sub 129 (.tmp 14) (.const (.int .u64 1023)) v_12 (.int .u64 1023)) h13) call fun v_14 h15 =>
arb (.val v_14 h15) call fun e_16 h17 =>
lt (sqK (J_math_trunc_1 P call fuel k) k) fun k24 =>
arb (.val e_16 h17) call fun v_25 h26 =>
arb (.of (aBin P .lss 129 (.tmp 16) (.const (.int .u64 52)) v_25 (.int .u64 52)) h26) call fun v_27 h28 =>
cb v_27 (
arb (.val b_6 h28) call fun v_29 h30 =>
arb (.val e_16 h30) call fun v_31 h32 =>
arb (.of (aBin P .sub 129 (.const (.int .u64 52)) (.tmp 19) (.int .u64 52) v_31) h32) call fun v_33 h34 =>
arb (.of (aBin P .shl 111 (.const (.int .u64 1)) (.tmp 20) (.int .u64 1) v_33) h34) call fun v_35 h36 =>
arb (.of (aBin P .sub 111 (.tmp 21) (.const (.int .u64 1)) v_35 (.int .u64 1)) h36) call fun v_37 h38 =>
arb (.of (aBin P .andNot 111 (.tmp 18) (.tmp 22) v_29 v_37) h38) call fun v_39 h40 =>
arb (.val v_39 h40) call fun b_41 h42 =>
k24 .normal (upd (upd (upd (upd (upd (upd (upd (upd (upd (upd (upd (upd (upd (upd (upd (upd (upd t 10 v_2) 11 v_4) 3 b_6) 12 v_8) 13 v_10) 14 v_12) 15 v_14) 4 e_16) 16 v_25) 17 v_27) 18 v_29) 19 v_31) 20 v_33) 21 v_35) 22 v_37) 23 v_39) 3 b_41) h42) (
k24 .normal (upd (upd (upd (upd (upd (upd (upd (upd (upd (upd t 10 v_2) 11 v_4) 3 b_6) 12 v_8) 13 v_10) 14 v_12) 15 v_14) 4 e_16) 16 v_25) 17 v_27) h28)

def S_math_trunc (P : Program) (call : FuncId → List AVal → Heap → Res AVal) (fuel : Nat) (x_a0 : AVal) (h : Heap) : Res AVal :=
lt (retK P [.tmp 2]) fun k =>
arb (.val (.flt .f64 0) h) call fun v_0 h1 =>
lt (sqK (J_math_trunc_0 P call fuel k) k) fun k43 =>
arb (.val x_a0 h1) call fun v_44 h45 =>
arb (.call F_math_Abs [v_44] h45) call fun v_46 h47 =>
arb (.of (aBin P .lss 89 (.tmp 6) (.const (.float .f64 4607182418800017408)) v_46 (.flt .f64 4607182418800017408)) h47) call fun v_48 h49 =>
cb v_48 (
arb (.val x_a0 h49) call fun v_50 h51 =>
arb (.call F_math_Copysign [(.flt .f64 0), v_50] h51) call fun v_52 h53 =>
arb (.val v_52 h53) call fun v_54 h55 =>
k43 .ret (upd (upd (upd (upd (upd (upd (upd (enterT [x_a0]) 2 v_0) 5 v_44) 6 v_46) 7 v_48) 8 v_50) 9 v_52) 2 v_54) h55) (
k43 .normal (upd (upd (upd (upd (enterT [x_a0]) 2 v_0) 5 v_44) 6 v_46) 7 v_48) h49)
theorem E_math_trunc (call : FuncId → List AVal → Heap → Res AVal) (fuel : Nat) (x_a0 : AVal) (h : Heap) : bodyR Try.prog call fuel Try.f73 [x_a0] h = S_math_trunc Try.prog call fuel x_a0 h := by kernel_rfl
theorem R_math_trunc {X : XTab} (x_a0 : AVal) {h : Heap} {Q : AVal → Heap → Prop} (hx : X F_math_trunc [x_a0] = none) (q : Tells (fun m => S_math_trunc Try.prog (acallX Try.prog X m) m x_a0 h) Q) :
    Tells (fun m => acallX Try.prog X m F_math_trunc [x_a0] h) Q :=
  Tells.later (q.le fun m => (E_math_trunc (acallX Try.prog X m) m x_a0 h) ▸ acallX_le Try.func73 hx m h)

/-! ### math.Abs -/

def S_math_Abs (P : Program) (call : FuncId → List AVal → Heap → Res AVal) (fuel : Nat) (x_a0 : AVal) (h : Heap) : Res AVal :=
lt (retK P [.tmp 2]) fun k =>
arb (.val (.flt .f64 0) h) call fun v_0 h1 =>
arb (.val x_a0 h1) call fun v_2 h3 =>
arb (.of (aNat P F_math_Float64bits [v_2]) h3) call fun v_4 h5 =>
arb (.of (aBin P .andNot 111 (.tmp 4) (.const (.int .u64 9223372036854775808)) v_4 (.int .u64 9223372036854775808)) h5) call fun v_6 h7 =>
arb (.of (aNat P F_math_Float64frombits [v_6]) h7) call fun v_8 h9 =>
arb (.val v_8 h9) call fun v_10 h11 =>
k .ret (upd (upd (upd (upd (upd (upd (enterT [x_a0]) 2 v_0) 3 v_2) 4 v_4) 5 v_6) 6 v_8) 2 v_10) h11
theorem E_math_Abs (call : FuncId → List AVal → Heap → Res AVal) (fuel : Nat) (x_a0 : AVal) (h : Heap) : bodyR Try.prog call fuel Try.f74 [x_a0] h = S_math_Abs Try.prog call fuel x_a0 h := by kernel_rfl
theorem R_math_Abs {X : XTab} (x_a0 : AVal) {h : Heap} {Q : AVal → Heap → Prop} (hx : X F_math_Abs [x_a0] = none) (q : Tells (fun m => S_math_Abs Try.prog (acallX Try.prog X m) m x_a0 h) Q) :
    Tells (fun m => acallX Try.prog X m F_math_Abs [x_a0] h) Q :=
  Tells.later (q.le fun m => (E_math_Abs (acallX Try.prog X m) m x_a0 h) ▸ acallX_le Try.func74 hx m h)


end Go.Proofs.Ytbkfamdkdjajjaa
