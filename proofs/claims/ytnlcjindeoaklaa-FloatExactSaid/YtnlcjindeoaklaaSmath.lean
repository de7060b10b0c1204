/-
  Functions of math in the form of YtnlcjindeoaklaaABS (printed by a program of ours, gen.lean).
-/
import Derived.Test.YtnlcjindeoaklaaSIds
set_option linter.unusedVariables false
namespace Go.Proofs.Ytnlcjindeoaklaa
open Go.Ab
/-! ### math.NaN -/

def S_math_NaN (P : Program) (call : FuncId → List AVal → Heap → Res AVal) (fuel : Nat) (h : Heap) : Res AVal :=
lt (retK P [.tmp 0]) fun k =>
arb (.val (.flt .f64 0) h) call fun v_0 h1 =>
arb (.of (aNat P F_math_Float64frombits [(.int .u64 9221120237041090561)]) h1) call fun v_2 h3 =>
arb (.val v_2 h3) call fun v_4 h5 =>
k .ret (upd (upd (upd (enterT []) 0 v_0) 1 v_2) 0 v_4) h5
theorem E_math_NaN (call : FuncId → List AVal → Heap → Res AVal) (fuel : Nat) (h : Heap) : bodyR Try.prog call fuel Try.f8 [] h = S_math_NaN Try.prog call fuel  h := by kernel_rfl
theorem R_math_NaN {X : XTab} {h : Heap} {Q : AVal → Heap → Prop} (hx : X F_math_NaN [] = none) (q : Tells (fun m => S_math_NaN Try.prog (acallX Try.prog X m) m  h) Q) :
    Tells (fun m => acallX Try.prog X m F_math_NaN [] h) Q :=
  Tells.later (q.le fun m => (E_math_NaN (acallX Try.prog X m) m  h) ▸ acallX_le Try.func8 hx m h)

/-! ### math.Inf -/
def J_math_Inf_0 (P : Program) (call : FuncId → List AVal → Heap → Res AVal) (fuel : Nat) (k : Kn (AVal)) (t : T) (h : Heap) : Res (AVal) :=
arb (.val (t 3) h) call fun v_4 h5 =>
arb (.of (aNat P F_math_Float64frombits [v_4]) h5) call fun v_6 h7 =>
arb (.val v_6 h7) call fun v_8 h9 =>
k .ret (upd (upd (upd t 6 v_4) 7 v_6) 2 v_8) h9

def S_math_Inf (P : Program) (call : FuncId → List AVal → Heap → Res AVal) (fuel : Nat) (sign_a0 : AVal) (h : Heap) : Res AVal :=
lt (retK P [.tmp 2]) fun k =>
arb (.val (.flt .f64 0) h) call fun v_0 h1 =>
arb (.val (.int .u64 0) h1) call fun v_2 h3 =>
lt (sqK (J_math_Inf_0 P call fuel k) k) fun k10 =>
arb (.val sign_a0 h3) call fun v_11 h12 =>
arb (.of (aBin P .geq 3 (.tmp 4) (.const (.int .i64 0)) v_11 (.int .i64 0)) h12) call fun v_13 h14 =>
cb v_13 (
arb (.val (.int .u64 9218868437227405312) h14) call fun v_15 h16 =>
k10 .normal (upd (upd (upd (upd (upd (enterT [sign_a0]) 2 v_0) 3 v_2) 4 v_11) 5 v_13) 3 v_15) h16) (
arb (.val (.int .u64 18442240474082181120) h14) call fun v_17 h18 =>
k10 .normal (upd (upd (upd (upd (upd (enterT [sign_a0]) 2 v_0) 3 v_2) 4 v_11) 5 v_13) 3 v_17) h18)
theorem E_math_Inf (call : FuncId → List AVal → Heap → Res AVal) (fuel : Nat) (sign_a0 : AVal) (h : Heap) : bodyR Try.prog call fuel Try.f9 [sign_a0] h = S_math_Inf Try.prog call fuel sign_a0 h := by kernel_rfl
theorem R_math_Inf {X : XTab} (sign_a0 : AVal) {h : Heap} {Q : AVal → Heap → Prop} (hx : X F_math_Inf [sign_a0] = none) (q : Tells (fun m => S_math_Inf Try.prog (acallX Try.prog X m) m sign_a0 h) Q) :
    Tells (fun m => acallX Try.prog X m F_math_Inf [sign_a0] h) Q :=
  Tells.later (q.le fun m => (E_math_Inf (acallX Try.prog X m) m sign_a0 h) ▸ acallX_le Try.func9 hx m h)

/-! ### math.Copysign -/

def S_math_Copysign (P : Program) (call : FuncId → List AVal → Heap → Res AVal) (fuel : Nat) (f_a0 sign_a1 : AVal) (h : Heap) : Res AVal :=
lt (retK P [.tmp 4]) fun k =>
arb (.val (.flt .f64 0) h) call fun v_0 h1 =>
arb (.val f_a0 h1) call fun v_2 h3 =>
arb (.of (aNat P F_math_Float64bits [v_2]) h3) call fun v_4 h5 =>
arb (.of (aBin P .andNot 31 (.tmp 6) (.const (.int .u64 9223372036854775808)) v_4 (.int .u64 9223372036854775808)) h5) call fun v_6 h7 =>
arb (.val sign_a1 h7) call fun v_8 h9 =>
arb (.of (aNat P F_math_Float64bits [v_8]) h9) call fun v_10 h11 =>
arb (.of (aBin P .and 31 (.tmp 9) (.const (.int .u64 9223372036854775808)) v_10 (.int .u64 9223372036854775808)) h11) call fun v_12 h13 =>
arb (.of (aBin P .or 31 (.tmp 7) (.tmp 10) v_6 v_12) h13) call fun v_14 h15 =>
arb (.of (aNat P F_math_Float64frombits [v_14]) h15) call fun v_16 h17 =>
arb (.val v_16 h17) call fun v_18 h19 =>
k .ret (upd (upd (upd (upd (upd (upd (upd (upd (upd (upd (enterT [f_a0, sign_a1]) 4 v_0) 5 v_2) 6 v_4) 7 v_6) 8 v_8) 9 v_10) 10 v_12) 11 v_14) 12 v_16) 4 v_18) h19
theorem E_math_Copysign (call : FuncId → List AVal → Heap → Res AVal) (fuel : Nat) (f_a0 sign_a1 : AVal) (h : Heap) : bodyR Try.prog call fuel Try.f10 [f_a0, sign_a1] h = S_math_Copysign Try.prog call fuel f_a0 sign_a1 h := by kernel_rfl
theorem R_math_Copysign {X : XTab} (f_a0 sign_a1 : AVal) {h : Heap} {Q : AVal → Heap → Prop} (hx : X F_math_Copysign [f_a0, sign_a1] = none) (q : Tells (fun m => S_math_Copysign Try.prog (acallX Try.prog X m) m f_a0 sign_a1 h) Q) :
    Tells (fun m => acallX Try.prog X m F_math_Copysign [f_a0, sign_a1] h) Q :=
  Tells.later (q.le fun m => (E_math_Copysign (acallX Try.prog X m) m f_a0 sign_a1 h) ▸ acallX_le Try.func10 hx m h)

/-! ### math.Signbit -/

def S_math_Signbit (P : Program) (call : FuncId → List AVal → Heap → Res AVal) (fuel : Nat) (x_a0 : AVal) (h : Heap) : Res AVal :=
lt (retK P [.tmp 2]) fun k =>
arb (.val (.bool false) h) call fun v_0 h1 =>
arb (.val x_a0 h1) call fun v_2 h3 =>
arb (.of (aNat P F_math_Float64bits [v_2]) h3) call fun v_4 h5 =>
arb (aConv P h5 31 2 v_4) call fun v_6 h7 =>
arb (.of (aBin P .lss 2 (.tmp 5) (.const (.int .i64 0)) v_6 (.int .i64 0)) h7) call fun v_8 h9 =>
arb (.val v_8 h9) call fun v_10 h11 =>
k .ret (upd (upd (upd (upd (upd (upd (enterT [x_a0]) 2 v_0) 3 v_2) 4 v_4) 5 v_6) 6 v_8) 2 v_10) h11
theorem E_math_Signbit (call : FuncId → List AVal → Heap → Res AVal) (fuel : Nat) (x_a0 : AVal) (h : Heap) : bodyR Try.prog call fuel Try.f24 [x_a0] h = S_math_Signbit Try.prog call fuel x_a0 h := by kernel_rfl
theorem R_math_Signbit {X : XTab} (x_a0 : AVal) {h : Heap} {Q : AVal → Heap → Prop} (hx : X F_math_Signbit [x_a0] = none) (q : Tells (fun m => S_math_Signbit Try.prog (acallX Try.prog X m) m x_a0 h) Q) :
    Tells (fun m => acallX Try.prog X m F_math_Signbit [x_a0] h) Q :=
  Tells.later (q.le fun m => (E_math_Signbit (acallX Try.prog X m) m x_a0 h) ▸ acallX_le Try.func24 hx m h)

/-! ### math.Nextafter -/
def J_math_Nextafter_0 (P : Program) (call : FuncId → List AVal → Heap → Res AVal) (fuel : Nat) (k : Kn (AVal)) (t : T) (h : Heap) : Res (AVal) :=
k .ret t h

def S_math_Nextafter (P : Program) (call : FuncId → List AVal → Heap → Res AVal) (fuel : Nat) (x_a0 y_a1 : AVal) (h : Heap) : Res AVal :=
lt (retK P [.tmp 4]) fun k =>
arb (.val (.flt .f64 0) h) call fun r_0 h1 =>
lt (sqK (J_math_Nextafter_0 P call fuel k) k) fun k2 =>
lt (blkK 0 k2) fun k3 =>
arb (.val x_a0 h1) call fun v_4 h5 =>
arb (.call F_math_IsNaN [v_4] h5) call fun v_6 h7 =>
arb (.val v_6 h7) call fun v_8 h9 =>
gd (wantB v_8 false) (fun c => arb (.val y_a1 h9) call c) h9 fun v_10 h11 =>
gd (wantB v_8 false) (fun c => arb (.call F_math_IsNaN [v_10] h11) call c) h11 fun v_12 h13 =>
arb (pkR v_8 (.bool true) v_12 h13) call fun v_14 h15 =>
arb (.val v_14 h15) call fun v_16 h17 =>
cb v_16 (
arb (.call F_math_NaN [] h17) call fun v_18 h19 =>
arb (.val v_18 h19) call fun r_20 h21 =>
k3 .normal (upd (upd (upd (upd (upd (upd (upd (upd (upd (upd (enterT [x_a0, y_a1]) 4 r_0) 10 v_4) 11 v_6) 12 v_8) 13 v_10) 14 v_12) 15 v_14) 9 v_16) 16 v_18) 4 r_20) h21) (
arb (.val x_a0 h17) call fun v_22 h23 =>
arb (.val y_a1 h23) call fun v_24 h25 =>
arb (.of (aBin P .eql 22 (.tmp 18) (.tmp 19) v_22 v_24) h25) call fun v_26 h27 =>
arb (.val v_26 h27) call fun v_28 h29 =>
cb v_28 (
arb (.val x_a0 h29) call fun v_30 h31 =>
arb (.val v_30 h31) call fun r_32 h33 =>
k3 .normal (upd (upd (upd (upd (upd (upd (upd (upd (upd (upd (upd (upd (upd (upd (enterT [x_a0, y_a1]) 4 r_0) 10 v_4) 11 v_6) 12 v_8) 13 v_10) 14 v_12) 15 v_14) 9 v_16) 18 v_22) 19 v_24) 20 v_26) 17 v_28) 21 v_30) 4 r_32) h33) (
arb (.val x_a0 h29) call fun v_34 h35 =>
arb (.of (aBin P .eql 22 (.tmp 23) (.const (.float .f64 0)) v_34 (.flt .f64 0)) h35) call fun v_36 h37 =>
arb (.val v_36 h37) call fun v_38 h39 =>
cb v_38 (
arb (.of (aNat P F_math_Float64frombits [(.int .u64 1)]) h39) call fun v_40 h41 =>
arb (.val y_a1 h41) call fun v_42 h43 =>
arb (.call F_math_Copysign [v_40, v_42] h43) call fun v_44 h45 =>
arb (.val v_44 h45) call fun r_46 h47 =>
k3 .normal (upd (upd (upd (upd (upd (upd (upd (upd (upd (upd (upd (upd (upd (upd (upd (upd (upd (upd (upd (enterT [x_a0, y_a1]) 4 r_0) 10 v_4) 11 v_6) 12 v_8) 13 v_10) 14 v_12) 15 v_14) 9 v_16) 18 v_22) 19 v_24) 20 v_26) 17 v_28) 23 v_34) 24 v_36) 22 v_38) 25 v_40) 26 v_42) 27 v_44) 4 r_46) h47) (
arb (.val y_a1 h39) call fun v_48 h49 =>
arb (.val x_a0 h49) call fun v_50 h51 =>
arb (.of (aBin P .gtr 22 (.tmp 29) (.tmp 30) v_48 v_50) h51) call fun v_52 h53 =>
arb (.val x_a0 h53) call fun v_54 h55 =>
arb (.of (aBin P .gtr 22 (.tmp 32) (.const (.float .f64 0)) v_54 (.flt .f64 0)) h55) call fun v_56 h57 =>
arb (.of (aBin P .eql 4 (.tmp 31) (.tmp 33) v_52 v_56) h57) call fun v_58 h59 =>
arb (.val v_58 h59) call fun v_60 h61 =>
cb v_60 (
arb (.val x_a0 h61) call fun v_62 h63 =>
arb (.of (aNat P F_math_Float64bits [v_62]) h63) call fun v_64 h65 =>
arb (.of (aBin P .add 31 (.tmp 36) (.const (.int .u64 1)) v_64 (.int .u64 1)) h65) call fun v_66 h67 =>
arb (.of (aNat P F_math_Float64frombits [v_66]) h67) call fun v_68 h69 =>
arb (.val v_68 h69) call fun r_70 h71 =>
k3 .normal (upd (upd (upd (upd (upd (upd (upd (upd (upd (upd (upd (upd (upd (upd (upd (upd (upd (upd (upd (upd (upd (upd (upd (upd (upd (upd (upd (enterT [x_a0, y_a1]) 4 r_0) 10 v_4) 11 v_6) 12 v_8) 13 v_10) 14 v_12) 15 v_14) 9 v_16) 18 v_22) 19 v_24) 20 v_26) 17 v_28) 23 v_34) 24 v_36) 22 v_38) 29 v_48) 30 v_50) 31 v_52) 32 v_54) 33 v_56) 34 v_58) 28 v_60) 35 v_62) 36 v_64) 37 v_66) 38 v_68) 4 r_70) h71) (
arb (.val x_a0 h61) call fun v_72 h73 =>
arb (.of (aNat P F_math_Float64bits [v_72]) h73) call fun v_74 h75 =>
arb (.of (aBin P .sub 31 (.tmp 6) (.const (.int .u64 1)) v_74 (.int .u64 1)) h75) call fun v_76 h77 =>
arb (.of (aNat P F_math_Float64frombits [v_76]) h77) call fun v_78 h79 =>
arb (.val v_78 h79) call fun r_80 h81 =>
k3 .normal (upd (upd (upd (upd (upd (upd (upd (upd (upd (upd (upd (upd (upd (upd (upd (upd (upd (upd (upd (upd (upd (upd (upd (upd (upd (upd (upd (enterT [x_a0, y_a1]) 4 r_0) 10 v_4) 11 v_6) 12 v_8) 13 v_10) 14 v_12) 15 v_14) 9 v_16) 18 v_22) 19 v_24) 20 v_26) 17 v_28) 23 v_34) 24 v_36) 22 v_38) 29 v_48) 30 v_50) 31 v_52) 32 v_54) 33 v_56) 34 v_58) 28 v_60) 5 v_72) 6 v_74) 7 v_76) 8 v_78) 4 r_80) h81))))
theorem E_math_Nextafter (call : FuncId → List AVal → Heap → Res AVal) (fuel : Nat) (x_a0 y_a1 : AVal) (h : Heap) : bodyR Try.prog call fuel Try.f26 [x_a0, y_a1] h = S_math_Nextafter Try.prog call fuel x_a0 y_a1 h := by kernel_rfl
theorem R_math_Nextafter {X : XTab} (x_a0 y_a1 : AVal) {h : Heap} {Q : AVal → Heap → Prop} (hx : X F_math_Nextafter [x_a0, y_a1] = none) (q : Tells (fun m => S_math_Nextafter Try.prog (acallX Try.prog X m) m x_a0 y_a1 h) Q) :
    Tells (fun m => acallX Try.prog X m F_math_Nextafter [x_a0, y_a1] h) Q :=
  Tells.later (q.le fun m => (E_math_Nextafter (acallX Try.prog X m) m x_a0 y_a1 h) ▸ acallX_le Try.func26 hx m h)

/-! ### math.Floor -/
def J_math_Floor_0 (P : Program) (call : FuncId → List AVal → Heap → Res AVal) (fuel : Nat) (k : Kn (AVal)) (t : T) (h : Heap) : Res (AVal) :=
arb (.val (t 0) h) call fun v_2 h3 =>
arb (.call F_math_floor [v_2] h3) call fun v_4 h5 =>
arb (.val v_4 h5) call fun v_6 h7 =>
k .ret (upd (upd (upd t 5 v_2) 6 v_4) 2 v_6) h7

def S_math_Floor (P : Program) (call : FuncId → List AVal → Heap → Res AVal) (fuel : Nat) (x_a0 : AVal) (h : Heap) : Res AVal :=
lt (retK P [.tmp 2]) fun k =>
arb (.val (.flt .f64 0) h) call fun v_0 h1 =>
lt (sqK (J_math_Floor_0 P call fuel k) k) fun k8 =>
cb (.bool true) (
arb (.val x_a0 h1) call fun v_9 h10 =>
arb (.of (aNat P F_math_archFloor [v_9]) h10) call fun v_11 h12 =>
arb (.val v_11 h12) call fun v_13 h14 =>
k8 .ret (upd (upd (upd (upd (enterT [x_a0]) 2 v_0) 3 v_9) 4 v_11) 2 v_13) h14) (
k8 .normal (upd (enterT [x_a0]) 2 v_0) h1)
theorem E_math_Floor (call : FuncId → List AVal → Heap → Res AVal) (fuel : Nat) (x_a0 : AVal) (h : Heap) : bodyR Try.prog call fuel Try.f27 [x_a0] h = S_math_Floor Try.prog call fuel x_a0 h := by kernel_rfl
theorem R_math_Floor {X : XTab} (x_a0 : AVal) {h : Heap} {Q : AVal → Heap → Prop} (hx : X F_math_Floor [x_a0] = none) (q : Tells (fun m => S_math_Floor Try.prog (acallX Try.prog X m) m x_a0 h) Q) :
    Tells (fun m => acallX Try.prog X m F_math_Floor [x_a0] h) Q :=
  Tells.later (q.le fun m => (E_math_Floor (acallX Try.prog X m) m x_a0 h) ▸ acallX_le Try.func27 hx m h)

/-! ### math.IsNaN -/

def S_math_IsNaN (P : Program) (call : FuncId → List AVal → Heap → Res AVal) (fuel : Nat) (f_a0 : AVal) (h : Heap) : Res AVal :=
lt (retK P [.tmp 2]) fun k =>
arb (.val (.bool false) h) call fun is_0 h1 =>
arb (.val f_a0 h1) call fun v_2 h3 =>
arb (.val f_a0 h3) call fun v_4 h5 =>
arb (.of (aBin P .neq 22 (.tmp 3) (.tmp 4) v_2 v_4) h5) call fun v_6 h7 =>
arb (.val v_6 h7) call fun is_8 h9 =>
k .ret (upd (upd (upd (upd (upd (enterT [f_a0]) 2 is_0) 3 v_2) 4 v_4) 5 v_6) 2 is_8) h9
theorem E_math_IsNaN (call : FuncId → List AVal → Heap → Res AVal) (fuel : Nat) (f_a0 : AVal) (h : Heap) : bodyR Try.prog call fuel Try.f29 [f_a0] h = S_math_IsNaN Try.prog call fuel f_a0 h := by kernel_rfl
theorem R_math_IsNaN {X : XTab} (f_a0 : AVal) {h : Heap} {Q : AVal → Heap → Prop} (hx : X F_math_IsNaN [f_a0] = none) (q : Tells (fun m => S_math_IsNaN Try.prog (acallX Try.prog X m) m f_a0 h) Q) :
    Tells (fun m => acallX Try.prog X m F_math_IsNaN [f_a0] h) Q :=
  Tells.later (q.le fun m => (E_math_IsNaN (acallX Try.prog X m) m f_a0 h) ▸ acallX_le Try.func29 hx m h)

/-! ### math.Trunc -/
def J_math_Trunc_0 (P : Program) (call : FuncId → List AVal → Heap → Res AVal) (fuel : Nat) (k : Kn (AVal)) (t : T) (h : Heap) : Res (AVal) :=
arb (.val (t 0) h) call fun v_2 h3 =>
arb (.call F_math_trunc [v_2] h3) call fun v_4 h5 =>
arb (.val v_4 h5) call fun v_6 h7 =>
k .ret (upd (upd (upd t 5 v_2) 6 v_4) 2 v_6) h7

def S_math_Trunc (P : Program) (call : FuncId → List AVal → Heap → Res AVal) (fuel : Nat) (x_a0 : AVal) (h : Heap) : Res AVal :=
lt (retK P [.tmp 2]) fun k =>
arb (.val (.flt .f64 0) h) call fun v_0 h1 =>
lt (sqK (J_math_Trunc_0 P call fuel k) k) fun k8 =>
cb (.bool true) (
arb (.val x_a0 h1) call fun v_9 h10 =>
arb (.of (aNat P F_math_archTrunc [v_9]) h10) call fun v_11 h12 =>
arb (.val v_11 h12) call fun v_13 h14 =>
k8 .ret (upd (upd (upd (upd (enterT [x_a0]) 2 v_0) 3 v_9) 4 v_11) 2 v_13) h14) (
k8 .normal (upd (enterT [x_a0]) 2 v_0) h1)
theorem E_math_Trunc (call : FuncId → List AVal → Heap → Res AVal) (fuel : Nat) (x_a0 : AVal) (h : Heap) : bodyR Try.prog call fuel Try.f30 [x_a0] h = S_math_Trunc Try.prog call fuel x_a0 h := by kernel_rfl
theorem R_math_Trunc {X : XTab} (x_a0 : AVal) {h : Heap} {Q : AVal → Heap → Prop} (hx : X F_math_Trunc [x_a0] = none) (q : Tells (fun m => S_math_Trunc Try.prog (acallX Try.prog X m) m x_a0 h) Q) :
    Tells (fun m => acallX Try.prog X m F_math_Trunc [x_a0] h) Q :=
  Tells.later (q.le fun m => (E_math_Trunc (acallX Try.prog X m) m x_a0 h) ▸ acallX_le Try.func30 hx m h)

/-! ### math.floor -/
def J_math_floor_1 (P : Program) (call : FuncId → List AVal → Heap → Res AVal) (fuel : Nat) (k : Kn (AVal)) (t : T) (h : Heap) : Res (AVal) :=
arb (.val (t 0) h) call fun v_2 h3 =>
arb (.call F_math_Modf [v_2] h3) call fun v_4 h5 =>
arb (.val v_4 h5) call fun v_6 h7 =>
arb (extR v_6 0 h7) call fun v_8 h9 =>
arb (extR v_6 1 h9) call fun v_10 h11 =>
arb (.val v_8 h11) call fun d_12 h13 =>
arb (.val v_10 h13) call fun v_14 h15 =>
arb (.val d_12 h15) call fun v_16 h17 =>
arb (.val v_16 h17) call fun v_18 h19 =>
k .ret (upd (upd (upd (upd (upd (upd (upd (upd (upd t 33 v_2) 34 v_4) 32 v_6) 35 v_8) 36 v_10) 5 d_12) 6 v_14) 37 v_16) 2 v_18) h19

def J_math_floor_2 (P : Program) (call : FuncId → List AVal → Heap → Res AVal) (fuel : Nat) (k : Kn (AVal)) (t : T) (h : Heap) : Res (AVal) :=
arb (.val (t 3) h) call fun v_41 h42 =>
arb (.of (aUn P .neg v_41) h42) call fun v_43 h44 =>
arb (.val v_43 h44) call fun v_45 h46 =>
k .ret (upd (upd (upd t 30 v_41) 31 v_43) 2 v_45) h46

def J_math_floor_0 (P : Program) (call : FuncId → List AVal → Heap → Res AVal) (fuel : Nat) (k : Kn (AVal)) (t : T) (h : Heap) : Res (AVal) :=
lt (sqK (J_math_floor_1 P call fuel k) k) fun k20 =>
arb (.val (t 0) h) call fun v_21 h22 =>
arb (.of (aBin P .lss 22 (.tmp 18) (.const (.float .f64 0)) v_21 (.flt .f64 0)) h22) call fun v_23 h24 =>
cb v_23 (
arb (.val (t 0) h24) call fun v_25 h26 =>
arb (.of (aUn P .neg v_25) h26) call fun v_27 h28 =>
arb (.call F_math_Modf [v_27] h28) call fun v_29 h30 =>
arb (.val v_29 h30) call fun v_31 h32 =>
arb (extR v_31 0 h32) call fun v_33 h34 =>
arb (extR v_31 1 h34) call fun v_35 h36 =>
arb (.val v_33 h36) call fun d_37 h38 =>
arb (.val v_35 h38) call fun fract_39 h40 =>
lt (sqK (J_math_floor_2 P call fuel k20) k20) fun k47 =>
arb (.val fract_39 h40) call fun v_48 h49 =>
arb (.of (aBin P .neq 22 (.tmp 26) (.const (.float .f64 0)) v_48 (.flt .f64 0)) h49) call fun v_50 h51 =>
cb v_50 (
arb (.val d_37 h51) call fun v_52 h53 =>
arb (.of (aBin P .add 22 (.tmp 28) (.const (.float .f64 4607182418800017408)) v_52 (.flt .f64 4607182418800017408)) h53) call fun v_54 h55 =>
arb (.val v_54 h55) call fun d_56 h57 =>
k47 .normal (upd (upd (upd (upd (upd (upd (upd (upd (upd (upd (upd (upd (upd (upd (upd t 18 v_21) 19 v_23) 21 v_25) 22 v_27) 23 v_29) 20 v_31) 24 v_33) 25 v_35) 3 d_37) 4 fract_39) 26 v_48) 27 v_50) 28 v_52) 29 v_54) 3 d_56) h57) (
k47 .normal (upd (upd (upd (upd (upd (upd (upd (upd (upd (upd (upd (upd t 18 v_21) 19 v_23) 21 v_25) 22 v_27) 23 v_29) 20 v_31) 24 v_33) 25 v_35) 3 d_37) 4 fract_39) 26 v_48) 27 v_50) h51)) (
k20 .normal (upd (upd t 18 v_21) 19 v_23) h24)

def S_math_floor (P : Program) (call : FuncId → List AVal → Heap → Res AVal) (fuel : Nat) (x_a0 : AVal) (h : Heap) : Res AVal :=
lt (retK P [.tmp 2]) fun k =>
arb (.val (.flt .f64 0) h) call fun v_0 h1 =>
lt (sqK (J_math_floor_0 P call fuel k) k) fun k58 =>
arb (.val x_a0 h1) call fun v_59 h60 =>
arb (.of (aBin P .eql 22 (.tmp 7) (.const (.float .f64 0)) v_59 (.flt .f64 0)) h60) call fun v_61 h62 =>
arb (.val v_61 h62) call fun v_63 h64 =>
gd (wantB v_63 false) (fun c => arb (.val x_a0 h64) call c) h64 fun v_65 h66 =>
gd (wantB v_63 false) (fun c => arb (.call F_math_IsNaN [v_65] h66) call c) h66 fun v_67 h68 =>
arb (pkR v_63 (.bool true) v_67 h68) call fun v_69 h70 =>
arb (.val v_69 h70) call fun v_71 h72 =>
gd (wantB v_71 false) (fun c => arb (.val x_a0 h72) call c) h72 fun v_73 h74 =>
gd (wantB v_71 false) (fun c => arb (.call F_math_IsInf [v_73, (.int .i64 0)] h74) call c) h74 fun v_75 h76 =>
arb (pkR v_71 (.bool true) v_75 h76) call fun v_77 h78 =>
cb v_77 (
arb (.val x_a0 h78) call fun v_79 h80 =>
arb (.val v_79 h80) call fun v_81 h82 =>
k58 .ret (upd (upd (upd (upd (upd (upd (upd (upd (upd (upd (upd (upd (upd (enterT [x_a0]) 2 v_0) 7 v_59) 8 v_61) 9 v_63) 10 v_65) 11 v_67) 12 v_69) 13 v_71) 14 v_73) 15 v_75) 16 v_77) 17 v_79) 2 v_81) h82) (
k58 .normal (upd (upd (upd (upd (upd (upd (upd (upd (upd (upd (upd (enterT [x_a0]) 2 v_0) 7 v_59) 8 v_61) 9 v_63) 10 v_65) 11 v_67) 12 v_69) 13 v_71) 14 v_73) 15 v_75) 16 v_77) h78)
theorem E_math_floor (call : FuncId → List AVal → Heap → Res AVal) (fuel : Nat) (x_a0 : AVal) (h : Heap) : bodyR Try.prog call fuel Try.f33 [x_a0] h = S_math_floor Try.prog call fuel x_a0 h := by kernel_rfl
theorem R_math_floor {X : XTab} (x_a0 : AVal) {h : Heap} {Q : AVal → Heap → Prop} (hx : X F_math_floor [x_a0] = none) (q : Tells (fun m => S_math_floor Try.prog (acallX Try.prog X m) m x_a0 h) Q) :
    Tells (fun m => acallX Try.prog X m F_math_floor [x_a0] h) Q :=
  Tells.later (q.le fun m => (E_math_floor (acallX Try.prog X m) m x_a0 h) ▸ acallX_le Try.func33 hx m h)

/-! ### math.trunc -/
def J_math_trunc_1 (P : Program) (call : FuncId → List AVal → Heap → Res AVal) (fuel : Nat) (k : Kn (AVal)) (t : T) (h : Heap) : Res (AVal) :=
arb (.val (t 3) h) call fun v_18 h19 =>
arb (.of (aNat P F_math_Float64frombits [v_18]) h19) call fun v_20 h21 =>
arb (.val v_20 h21) call fun v_22 h23 =>
k .ret (upd (upd (upd t 24 v_18) 25 v_20) 2 v_22) h23

def J_math_trunc_0 (P : Program) (call : FuncId → List AVal → Heap → Res AVal) (fuel : Nat) (k : Kn (AVal)) (t : T) (h : Heap) : Res (AVal) :=
arb (.val (t 0) h) call fun v_2 h3 =>
arb (.of (aNat P F_math_Float64bits [v_2]) h3) call fun v_4 h5 =>
arb (.val v_4 h5) call fun b_6 h7 =>
arb (.val b_6 h7) call fun v_8 h9 =>
arb (.of (aBin P .shr 31 (.tmp 12) (.const (.int .u64 52)) v_8 (.int .u64 52)) h9) call fun v_10 h11 =>
arb (.of (aBin P .and 53 (.tmp 13) (.const (.int .u64 2047)) v_10 (.int .u64 2047)) h11) call fun v_12 h13 =>
arb (.of (aBin P .sub 53 (.tmp 14) (.const (.int .u64 1023)) v_12 (.int .u64 1023)) h13) call fun v_14 h15 =>
arb (.val v_14 h15) call fun e_16 h17 =>
lt (sqK (J_math_trunc_1 P call fuel k) k) fun k24 =>
arb (.val e_16 h17) call fun v_25 h26 =>
arb (.of (aBin P .lss 53 (.tmp 16) (.const (.int .u64 52)) v_25 (.int .u64 52)) h26) call fun v_27 h28 =>
cb v_27 (
arb (.val b_6 h28) call fun v_29 h30 =>
arb (.val e_16 h30) call fun v_31 h32 =>
arb (.of (aBin P .sub 53 (.const (.int .u64 52)) (.tmp 19) (.int .u64 52) v_31) h32) call fun v_33 h34 =>
arb (.of (aBin P .shl 31 (.const (.int .u64 1)) (.tmp 20) (.int .u64 1) v_33) h34) call fun v_35 h36 =>
arb (.of (aBin P .sub 31 (.tmp 21) (.const (.int .u64 1)) v_35 (.int .u64 1)) h36) call fun v_37 h38 =>
arb (.of (aBin P .andNot 31 (.tmp 18) (.tmp 22) v_29 v_37) h38) call fun v_39 h40 =>
arb (.val v_39 h40) call fun b_41 h42 =>
k24 .normal (upd (upd (upd (upd (upd (upd (upd (upd (upd (upd (upd (upd (upd (upd (upd (upd (upd t 10 v_2) 11 v_4) 3 b_6) 12 v_8) 13 v_10) 14 v_12) 15 v_14) 4 e_16) 16 v_25) 17 v_27) 18 v_29) 19 v_31) 20 v_33) 21 v_35) 22 v_37) 23 v_39) 3 b_41) h42) (
k24 .normal (upd (upd (upd (upd (upd (upd (upd (upd (upd (upd t 10 v_2) 11 v_4) 3 b_6) 12 v_8) 13 v_10) 14 v_12) 15 v_14) 4 e_16) 16 v_25) 17 v_27) h28)

def S_math_trunc (P : Program) (call : FuncId → List AVal → Heap → Res AVal) (fuel : Nat) (x_a0 : AVal) (h : Heap) : Res AVal :=
lt (retK P [.tmp 2]) fun k =>
arb (.val (.flt .f64 0) h) call fun v_0 h1 =>
lt (sqK (J_math_trunc_0 P call fuel k) k) fun k43 =>
arb (.val x_a0 h1) call fun v_44 h45 =>
arb (.call F_math_Abs [v_44] h45) call fun v_46 h47 =>
arb (.of (aBin P .lss 22 (.tmp 6) (.const (.float .f64 4607182418800017408)) v_46 (.flt .f64 4607182418800017408)) h47) call fun v_48 h49 =>
cb v_48 (
arb (.val x_a0 h49) call fun v_50 h51 =>
arb (.call F_math_Copysign [(.flt .f64 0), v_50] h51) call fun v_52 h53 =>
arb (.val v_52 h53) call fun v_54 h55 =>
k43 .ret (upd (upd (upd (upd (upd (upd (upd (enterT [x_a0]) 2 v_0) 5 v_44) 6 v_46) 7 v_48) 8 v_50) 9 v_52) 2 v_54) h55) (
k43 .normal (upd (upd (upd (upd (enterT [x_a0]) 2 v_0) 5 v_44) 6 v_46) 7 v_48) h49)
theorem E_math_trunc (call : FuncId → List AVal → Heap → Res AVal) (fuel : Nat) (x_a0 : AVal) (h : Heap) : bodyR Try.prog call fuel Try.f35 [x_a0] h = S_math_trunc Try.prog call fuel x_a0 h := by kernel_rfl
theorem R_math_trunc {X : XTab} (x_a0 : AVal) {h : Heap} {Q : AVal → Heap → Prop} (hx : X F_math_trunc [x_a0] = none) (q : Tells (fun m => S_math_trunc Try.prog (acallX Try.prog X m) m x_a0 h) Q) :
    Tells (fun m => acallX Try.prog X m F_math_trunc [x_a0] h) Q :=
  Tells.later (q.le fun m => (E_math_trunc (acallX Try.prog X m) m x_a0 h) ▸ acallX_le Try.func35 hx m h)

/-! ### math.IsInf -/
def J_math_IsInf_0 (P : Program) (call : FuncId → List AVal → Heap → Res AVal) (fuel : Nat) (k : Kn (AVal)) (t : T) (h : Heap) : Res (AVal) :=
arb (.val (t 0) h) call fun v_2 h3 =>
arb (.of (aBin P .gtr 22 (.tmp 13) (.const (.float .f64 9218868437227405311)) v_2 (.flt .f64 9218868437227405311)) h3) call fun v_4 h5 =>
arb (.val v_4 h5) call fun v_6 h7 =>
k .ret (upd (upd (upd t 13 v_2) 14 v_4) 4 v_6) h7

def S_math_IsInf (P : Program) (call : FuncId → List AVal → Heap → Res AVal) (fuel : Nat) (f_a0 sign_a1 : AVal) (h : Heap) : Res AVal :=
lt (retK P [.tmp 4]) fun k =>
arb (.val (.bool false) h) call fun v_0 h1 =>
lt (sqK (J_math_IsInf_0 P call fuel k) k) fun k8 =>
arb (.val sign_a1 h1) call fun v_9 h10 =>
arb (.of (aBin P .eql 3 (.tmp 5) (.const (.int .i64 0)) v_9 (.int .i64 0)) h10) call fun v_11 h12 =>
cb v_11 (
arb (.val f_a0 h12) call fun v_13 h14 =>
arb (.call F_math_Abs [v_13] h14) call fun v_15 h16 =>
arb (.val v_15 h16) call fun f_17 h18 =>
k8 .normal (upd (upd (upd (upd (upd (upd (enterT [f_a0, sign_a1]) 4 v_0) 5 v_9) 6 v_11) 7 v_13) 8 v_15) 0 f_17) h18) (
arb (.val sign_a1 h12) call fun v_19 h20 =>
arb (.of (aBin P .lss 3 (.tmp 9) (.const (.int .i64 0)) v_19 (.int .i64 0)) h20) call fun v_21 h22 =>
cb v_21 (
arb (.val f_a0 h22) call fun v_23 h24 =>
arb (.of (aUn P .neg v_23) h24) call fun v_25 h26 =>
arb (.val v_25 h26) call fun f_27 h28 =>
k8 .normal (upd (upd (upd (upd (upd (upd (upd (upd (enterT [f_a0, sign_a1]) 4 v_0) 5 v_9) 6 v_11) 9 v_19) 10 v_21) 11 v_23) 12 v_25) 0 f_27) h28) (
k8 .normal (upd (upd (upd (upd (upd (enterT [f_a0, sign_a1]) 4 v_0) 5 v_9) 6 v_11) 9 v_19) 10 v_21) h22))
theorem E_math_IsInf (call : FuncId → List AVal → Heap → Res AVal) (fuel : Nat) (f_a0 sign_a1 : AVal) (h : Heap) : bodyR Try.prog call fuel Try.f36 [f_a0, sign_a1] h = S_math_IsInf Try.prog call fuel f_a0 sign_a1 h := by kernel_rfl
theorem R_math_IsInf {X : XTab} (f_a0 sign_a1 : AVal) {h : Heap} {Q : AVal → Heap → Prop} (hx : X F_math_IsInf [f_a0, sign_a1] = none) (q : Tells (fun m => S_math_IsInf Try.prog (acallX Try.prog X m) m f_a0 sign_a1 h) Q) :
    Tells (fun m => acallX Try.prog X m F_math_IsInf [f_a0, sign_a1] h) Q :=
  Tells.later (q.le fun m => (E_math_IsInf (acallX Try.prog X m) m f_a0 sign_a1 h) ▸ acallX_le Try.func36 hx m h)

/-! ### math.Modf -/

def S_math_Modf (P : Program) (call : FuncId → List AVal → Heap → Res AVal) (fuel : Nat) (f_a0 : AVal) (h : Heap) : Res AVal :=
lt (retK P [.tmp 2, .tmp 3]) fun k =>
arb (.val (.flt .f64 0) h) call fun integer_0 h1 =>
arb (.val (.flt .f64 0) h1) call fun fractional_2 h3 =>
arb (.val f_a0 h3) call fun v_4 h5 =>
arb (.call F_math_Trunc [v_4] h5) call fun v_6 h7 =>
arb (.val v_6 h7) call fun integer_8 h9 =>
arb (.val f_a0 h9) call fun v_10 h11 =>
arb (.val integer_8 h11) call fun v_12 h13 =>
arb (.of (aBin P .sub 22 (.tmp 6) (.tmp 7) v_10 v_12) h13) call fun v_14 h15 =>
arb (.val f_a0 h15) call fun v_16 h17 =>
arb (.call F_math_Copysign [v_14, v_16] h17) call fun v_18 h19 =>
arb (.val v_18 h19) call fun fractional_20 h21 =>
k .ret (upd (upd (upd (upd (upd (upd (upd (upd (upd (upd (upd (enterT [f_a0]) 2 integer_0) 3 fractional_2) 4 v_4) 5 v_6) 2 integer_8) 6 v_10) 7 v_12) 8 v_14) 9 v_16) 10 v_18) 3 fractional_20) h21
theorem E_math_Modf (call : FuncId → List AVal → Heap → Res AVal) (fuel : Nat) (f_a0 : AVal) (h : Heap) : bodyR Try.prog call fuel Try.f37 [f_a0] h = S_math_Modf Try.prog call fuel f_a0 h := by kernel_rfl
theorem R_math_Modf {X : XTab} (f_a0 : AVal) {h : Heap} {Q : AVal → Heap → Prop} (hx : X F_math_Modf [f_a0] = none) (q : Tells (fun m => S_math_Modf Try.prog (acallX Try.prog X m) m f_a0 h) Q) :
    Tells (fun m => acallX Try.prog X m F_math_Modf [f_a0] h) Q :=
  Tells.later (q.le fun m => (E_math_Modf (acallX Try.prog X m) m f_a0 h) ▸ acallX_le Try.func37 hx m h)

/-! ### math.Abs -/

def S_math_Abs (P : Program) (call : FuncId → List AVal → Heap → Res AVal) (fuel : Nat) (x_a0 : AVal) (h : Heap) : Res AVal :=
lt (retK P [.tmp 2]) fun k =>
arb (.val (.flt .f64 0) h) call fun v_0 h1 =>
arb (.val x_a0 h1) call fun v_2 h3 =>
arb (.of (aNat P F_math_Float64bits [v_2]) h3) call fun v_4 h5 =>
arb (.of (aBin P .andNot 31 (.tmp 4) (.const (.int .u64 9223372036854775808)) v_4 (.int .u64 9223372036854775808)) h5) call fun v_6 h7 =>
arb (.of (aNat P F_math_Float64frombits [v_6]) h7) call fun v_8 h9 =>
arb (.val v_8 h9) call fun v_10 h11 =>
k .ret (upd (upd (upd (upd (upd (upd (enterT [x_a0]) 2 v_0) 3 v_2) 4 v_4) 5 v_6) 6 v_8) 2 v_10) h11
theorem E_math_Abs (call : FuncId → List AVal → Heap → Res AVal) (fuel : Nat) (x_a0 : AVal) (h : Heap) : bodyR Try.prog call fuel Try.f38 [x_a0] h = S_math_Abs Try.prog call fuel x_a0 h := by kernel_rfl
theorem R_math_Abs {X : XTab} (x_a0 : AVal) {h : Heap} {Q : AVal → Heap → Prop} (hx : X F_math_Abs [x_a0] = none) (q : Tells (fun m => S_math_Abs Try.prog (acallX Try.prog X m) m x_a0 h) Q) :
    Tells (fun m => acallX Try.prog X m F_math_Abs [x_a0] h) Q :=
  Tells.later (q.le fun m => (E_math_Abs (acallX Try.prog X m) m x_a0 h) ▸ acallX_le Try.func38 hx m h)


end Go.Proofs.Ytnlcjindeoaklaa
