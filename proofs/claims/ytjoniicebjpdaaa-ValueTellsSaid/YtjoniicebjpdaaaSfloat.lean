/-
  Functions of float in the form of YtjoniicebjpdaaaABS (printed by a program of ours, gen.lean).
-/
import Derived.Test.YtjoniicebjpdaaaSIds
set_option linter.unusedVariables false
namespace Go.Proofs.Ytjoniicebjpdaaa
open Go.Ab
/-! ### precentor/float.Cmp -/
def J_float_Cmp_0 (P : Program) (call : FuncId → List AVal → Heap → Res AVal) (fuel : Nat) (k : Kn (AVal)) (t : T) (h : Heap) : Res (AVal) :=
arb (.val (t 0) h) call fun v_4 h5 =>
arb (.val (t 1) h5) call fun v_6 h7 =>
arb (.of (aBin P .lss 22 (.tmp 12) (.tmp 13) v_4 v_6) h7) call fun v_8 h9 =>
arb (.val (t 0) h9) call fun v_10 h11 =>
arb (.val (t 1) h11) call fun v_12 h13 =>
arb (.of (aBin P .gtr 22 (.tmp 15) (.tmp 16) v_10 v_12) h13) call fun v_14 h15 =>
arb (.call F_float_sign [v_8, v_14] h15) call fun v_16 h17 =>
arb (.val v_16 h17) call fun v_18 h19 =>
arb (.val (.bool true) h19) call fun v_20 h21 =>
k .ret (upd (upd (upd (upd (upd (upd (upd (upd (upd t 12 v_4) 13 v_6) 14 v_8) 15 v_10) 16 v_12) 17 v_14) 18 v_16) 4 v_18) 5 v_20) h21

def S_float_Cmp (P : Program) (call : FuncId → List AVal → Heap → Res AVal) (fuel : Nat) (a_a0 b_a1 : AVal) (h : Heap) : Res AVal :=
lt (retK P [.tmp 4, .tmp 5]) fun k =>
arb (.val (.int .i64 0) h) call fun v_0 h1 =>
arb (.val (.bool false) h1) call fun v_2 h3 =>
lt (sqK (J_float_Cmp_0 P call fuel k) k) fun k22 =>
arb (.val a_a0 h3) call fun v_23 h24 =>
arb (.call F_math_IsNaN [v_23] h24) call fun v_25 h26 =>
arb (.val v_25 h26) call fun v_27 h28 =>
gd (wantB v_27 false) (fun c => arb (.val b_a1 h28) call c) h28 fun v_29 h30 =>
gd (wantB v_27 false) (fun c => arb (.call F_math_IsNaN [v_29] h30) call c) h30 fun v_31 h32 =>
arb (pkR v_27 (.bool true) v_31 h32) call fun v_33 h34 =>
cb v_33 (
arb (.val (.int .i64 0) h34) call fun v_35 h36 =>
arb (.val (.bool false) h36) call fun v_37 h38 =>
k22 .ret (upd (upd (upd (upd (upd (upd (upd (upd (upd (upd (enterT [a_a0, b_a1]) 4 v_0) 5 v_2) 6 v_23) 7 v_25) 8 v_27) 9 v_29) 10 v_31) 11 v_33) 4 v_35) 5 v_37) h38) (
k22 .normal (upd (upd (upd (upd (upd (upd (upd (upd (enterT [a_a0, b_a1]) 4 v_0) 5 v_2) 6 v_23) 7 v_25) 8 v_27) 9 v_29) 10 v_31) 11 v_33) h34)
theorem E_float_Cmp (call : FuncId → List AVal → Heap → Res AVal) (fuel : Nat) (a_a0 b_a1 : AVal) (h : Heap) : bodyR Try.prog call fuel Try.f26 [a_a0, b_a1] h = S_float_Cmp Try.prog call fuel a_a0 b_a1 h := by kernel_rfl
theorem R_float_Cmp {X : XTab} (a_a0 b_a1 : AVal) {h : Heap} {Q : AVal → Heap → Prop} (hx : X F_float_Cmp [a_a0, b_a1] = none) (q : Tells (fun m => S_float_Cmp Try.prog (acallX Try.prog X m) m a_a0 b_a1 h) Q) :
    Tells (fun m => acallX Try.prog X m F_float_Cmp [a_a0, b_a1] h) Q :=
  Tells.later (q.le fun m => (E_float_Cmp (acallX Try.prog X m) m a_a0 b_a1 h) ▸ acallX_le Try.func26 hx m h)

/-! ### precentor/float.CmpInt -/
def J_float_CmpInt_1 (P : Program) (call : FuncId → List AVal → Heap → Res AVal) (fuel : Nat) (k : Kn (AVal)) (t : T) (h : Heap) : Res (AVal) :=
arb (.val (t 6) h) call fun v_10 h11 =>
arb (.val (t 1) h11) call fun v_12 h13 =>
arb (.of (aBin P .lss 22 (.tmp 31) (.tmp 32) v_10 v_12) h13) call fun v_14 h15 =>
arb (.val (t 6) h15) call fun v_16 h17 =>
arb (.val (t 1) h17) call fun v_18 h19 =>
arb (.of (aBin P .gtr 22 (.tmp 34) (.tmp 35) v_16 v_18) h19) call fun v_20 h21 =>
arb (.call F_float_sign [v_14, v_20] h21) call fun v_22 h23 =>
arb (.val v_22 h23) call fun v_24 h25 =>
arb (.val (.bool true) h25) call fun v_26 h27 =>
k .ret (upd (upd (upd (upd (upd (upd (upd (upd (upd t 31 v_10) 32 v_12) 33 v_14) 34 v_16) 35 v_18) 36 v_20) 37 v_22) 4 v_24) 5 v_26) h27

def J_float_CmpInt_0 (P : Program) (call : FuncId → List AVal → Heap → Res AVal) (fuel : Nat) (k : Kn (AVal)) (t : T) (h : Heap) : Res (AVal) :=
arb (.val (t 1) h) call fun v_4 h5 =>
arb (.call F_math_Trunc [v_4] h5) call fun v_6 h7 =>
arb (.val v_6 h7) call fun whole_8 h9 =>
lt (sqK (J_float_CmpInt_1 P call fuel k) k) fun k28 =>
arb (.val whole_8 h9) call fun v_29 h30 =>
arb (aConv P h30 22 2 v_29) call fun v_31 h32 =>
arb (.val v_31 h32) call fun k_33 h34 =>
arb (.val k_33 h34) call fun v_35 h36 =>
arb (.val (t 0) h36) call fun v_37 h38 =>
arb (.of (aBin P .neq 2 (.tmp 21) (.tmp 22) v_35 v_37) h38) call fun v_39 h40 =>
cb v_39 (
arb (.val (t 0) h40) call fun v_41 h42 =>
arb (.val k_33 h42) call fun v_43 h44 =>
arb (.of (aBin P .lss 2 (.tmp 24) (.tmp 25) v_41 v_43) h44) call fun v_45 h46 =>
arb (.val (t 0) h46) call fun v_47 h48 =>
arb (.val k_33 h48) call fun v_49 h50 =>
arb (.of (aBin P .gtr 2 (.tmp 27) (.tmp 28) v_47 v_49) h50) call fun v_51 h52 =>
arb (.call F_float_sign [v_45, v_51] h52) call fun v_53 h54 =>
arb (.val v_53 h54) call fun v_55 h56 =>
arb (.val (.bool true) h56) call fun v_57 h58 =>
k28 .ret (upd (upd (upd (upd (upd (upd (upd (upd (upd (upd (upd (upd (upd (upd (upd (upd (upd (upd t 17 v_4) 18 v_6) 6 whole_8) 19 v_29) 20 v_31) 7 k_33) 21 v_35) 22 v_37) 23 v_39) 24 v_41) 25 v_43) 26 v_45) 27 v_47) 28 v_49) 29 v_51) 30 v_53) 4 v_55) 5 v_57) h58) (
k28 .normal (upd (upd (upd (upd (upd (upd (upd (upd (upd t 17 v_4) 18 v_6) 6 whole_8) 19 v_29) 20 v_31) 7 k_33) 21 v_35) 22 v_37) 23 v_39) h40)

def S_float_CmpInt (P : Program) (call : FuncId → List AVal → Heap → Res AVal) (fuel : Nat) (n_a0 x_a1 : AVal) (h : Heap) : Res AVal :=
lt (retK P [.tmp 4, .tmp 5]) fun k =>
arb (.val (.int .i64 0) h) call fun v_0 h1 =>
arb (.val (.bool false) h1) call fun v_2 h3 =>
lt (sqK (J_float_CmpInt_0 P call fuel k) k) fun k59 =>
lt (blkK 0 k59) fun k60 =>
arb (.val x_a1 h3) call fun v_61 h62 =>
arb (.call F_math_IsNaN [v_61] h62) call fun v_63 h64 =>
arb (.val v_63 h64) call fun v_65 h66 =>
cb v_65 (
arb (.val (.int .i64 0) h66) call fun v_67 h68 =>
arb (.val (.bool false) h68) call fun v_69 h70 =>
k60 .ret (upd (upd (upd (upd (upd (upd (upd (enterT [n_a0, x_a1]) 4 v_0) 5 v_2) 9 v_61) 10 v_63) 8 v_65) 4 v_67) 5 v_69) h70) (
arb (.val x_a1 h66) call fun v_71 h72 =>
arb (.of (aBin P .geq 22 (.tmp 12) (.const (.float .f64 4890909195324358656)) v_71 (.flt .f64 4890909195324358656)) h72) call fun v_73 h74 =>
arb (.val v_73 h74) call fun v_75 h76 =>
cb v_75 (
arb (.val (.int .i64 (-1)) h76) call fun v_77 h78 =>
arb (.val (.bool true) h78) call fun v_79 h80 =>
k60 .ret (upd (upd (upd (upd (upd (upd (upd (upd (upd (upd (enterT [n_a0, x_a1]) 4 v_0) 5 v_2) 9 v_61) 10 v_63) 8 v_65) 12 v_71) 13 v_73) 11 v_75) 4 v_77) 5 v_79) h80) (
arb (.val x_a1 h76) call fun v_81 h82 =>
arb (.of (aBin P .lss 22 (.tmp 15) (.const (.float .f64 14114281232179134464)) v_81 (.flt .f64 14114281232179134464)) h82) call fun v_83 h84 =>
arb (.val v_83 h84) call fun v_85 h86 =>
cb v_85 (
arb (.val (.int .i64 1) h86) call fun v_87 h88 =>
arb (.val (.bool true) h88) call fun v_89 h90 =>
k60 .ret (upd (upd (upd (upd (upd (upd (upd (upd (upd (upd (upd (upd (upd (enterT [n_a0, x_a1]) 4 v_0) 5 v_2) 9 v_61) 10 v_63) 8 v_65) 12 v_71) 13 v_73) 11 v_75) 15 v_81) 16 v_83) 14 v_85) 4 v_87) 5 v_89) h90) (
k60 .normal (upd (upd (upd (upd (upd (upd (upd (upd (upd (upd (upd (enterT [n_a0, x_a1]) 4 v_0) 5 v_2) 9 v_61) 10 v_63) 8 v_65) 12 v_71) 13 v_73) 11 v_75) 15 v_81) 16 v_83) 14 v_85) h86)))
theorem E_float_CmpInt (call : FuncId → List AVal → Heap → Res AVal) (fuel : Nat) (n_a0 x_a1 : AVal) (h : Heap) : bodyR Try.prog call fuel Try.f27 [n_a0, x_a1] h = S_float_CmpInt Try.prog call fuel n_a0 x_a1 h := by kernel_rfl
theorem R_float_CmpInt {X : XTab} (n_a0 x_a1 : AVal) {h : Heap} {Q : AVal → Heap → Prop} (hx : X F_float_CmpInt [n_a0, x_a1] = none) (q : Tells (fun m => S_float_CmpInt Try.prog (acallX Try.prog X m) m n_a0 x_a1 h) Q) :
    Tells (fun m => acallX Try.prog X m F_float_CmpInt [n_a0, x_a1] h) Q :=
  Tells.later (q.le fun m => (E_float_CmpInt (acallX Try.prog X m) m n_a0 x_a1 h) ▸ acallX_le Try.func27 hx m h)

/-! ### precentor/float.Same -/

def S_float_Same (P : Program) (call : FuncId → List AVal → Heap → Res AVal) (fuel : Nat) (a_a0 b_a1 : AVal) (h : Heap) : Res AVal :=
lt (retK P [.tmp 4]) fun k =>
arb (.val (.bool false) h) call fun v_0 h1 =>
arb (.val a_a0 h1) call fun v_2 h3 =>
arb (.call F_float_Bits [v_2] h3) call fun v_4 h5 =>
arb (.val b_a1 h5) call fun v_6 h7 =>
arb (.call F_float_Bits [v_6] h7) call fun v_8 h9 =>
arb (.of (aBin P .eql 46 (.tmp 6) (.tmp 8) v_4 v_8) h9) call fun v_10 h11 =>
arb (.val v_10 h11) call fun v_12 h13 =>
k .ret (upd (upd (upd (upd (upd (upd (upd (enterT [a_a0, b_a1]) 4 v_0) 5 v_2) 6 v_4) 7 v_6) 8 v_8) 9 v_10) 4 v_12) h13
theorem E_float_Same (call : FuncId → List AVal → Heap → Res AVal) (fuel : Nat) (a_a0 b_a1 : AVal) (h : Heap) : bodyR Try.prog call fuel Try.f29 [a_a0, b_a1] h = S_float_Same Try.prog call fuel a_a0 b_a1 h := by kernel_rfl
theorem R_float_Same {X : XTab} (a_a0 b_a1 : AVal) {h : Heap} {Q : AVal → Heap → Prop} (hx : X F_float_Same [a_a0, b_a1] = none) (q : Tells (fun m => S_float_Same Try.prog (acallX Try.prog X m) m a_a0 b_a1 h) Q) :
    Tells (fun m => acallX Try.prog X m F_float_Same [a_a0, b_a1] h) Q :=
  Tells.later (q.le fun m => (E_float_Same (acallX Try.prog X m) m a_a0 b_a1 h) ▸ acallX_le Try.func29 hx m h)

/-! ### precentor/float.sign -/
def J_float_sign_0 (P : Program) (call : FuncId → List AVal → Heap → Res AVal) (fuel : Nat) (k : Kn (AVal)) (t : T) (h : Heap) : Res (AVal) :=
arb (.val (.int .i64 0) h) call fun v_2 h3 =>
k .ret (upd t 4 v_2) h3

def S_float_sign (P : Program) (call : FuncId → List AVal → Heap → Res AVal) (fuel : Nat) (below_a0 above_a1 : AVal) (h : Heap) : Res AVal :=
lt (retK P [.tmp 4]) fun k =>
arb (.val (.int .i64 0) h) call fun v_0 h1 =>
lt (sqK (J_float_sign_0 P call fuel k) k) fun k4 =>
lt (blkK 0 k4) fun k5 =>
arb (.val below_a0 h1) call fun v_6 h7 =>
arb (.val v_6 h7) call fun v_8 h9 =>
cb v_8 (
arb (.val (.int .i64 (-1)) h9) call fun v_10 h11 =>
k5 .ret (upd (upd (upd (upd (enterT [below_a0, above_a1]) 4 v_0) 6 v_6) 5 v_8) 4 v_10) h11) (
arb (.val above_a1 h9) call fun v_12 h13 =>
arb (.val v_12 h13) call fun v_14 h15 =>
cb v_14 (
arb (.val (.int .i64 1) h15) call fun v_16 h17 =>
k5 .ret (upd (upd (upd (upd (upd (upd (enterT [below_a0, above_a1]) 4 v_0) 6 v_6) 5 v_8) 8 v_12) 7 v_14) 4 v_16) h17) (
k5 .normal (upd (upd (upd (upd (upd (enterT [below_a0, above_a1]) 4 v_0) 6 v_6) 5 v_8) 8 v_12) 7 v_14) h15))
theorem E_float_sign (call : FuncId → List AVal → Heap → Res AVal) (fuel : Nat) (below_a0 above_a1 : AVal) (h : Heap) : bodyR Try.prog call fuel Try.f36 [below_a0, above_a1] h = S_float_sign Try.prog call fuel below_a0 above_a1 h := by kernel_rfl
theorem R_float_sign {X : XTab} (below_a0 above_a1 : AVal) {h : Heap} {Q : AVal → Heap → Prop} (hx : X F_float_sign [below_a0, above_a1] = none) (q : Tells (fun m => S_float_sign Try.prog (acallX Try.prog X m) m below_a0 above_a1 h) Q) :
    Tells (fun m => acallX Try.prog X m F_float_sign [below_a0, above_a1] h) Q :=
  Tells.later (q.le fun m => (E_float_sign (acallX Try.prog X m) m below_a0 above_a1 h) ▸ acallX_le Try.func36 hx m h)

/-! ### precentor/float.Bits -/
def J_float_Bits_1 (P : Program) (call : FuncId → List AVal → Heap → Res AVal) (fuel : Nat) (k : Kn (AVal)) (t : T) (h : Heap) : Res (AVal) :=
arb (.val (t 0) h) call fun v_2 h3 =>
arb (.of (aNat P F_math_Float64bits [v_2]) h3) call fun v_4 h5 =>
arb (.val v_4 h5) call fun v_6 h7 =>
k .ret (upd (upd (upd t 7 v_2) 8 v_4) 2 v_6) h7

def J_float_Bits_0 (P : Program) (call : FuncId → List AVal → Heap → Res AVal) (fuel : Nat) (k : Kn (AVal)) (t : T) (h : Heap) : Res (AVal) :=
lt (sqK (J_float_Bits_1 P call fuel k) k) fun k8 =>
arb (.val (t 0) h) call fun v_9 h10 =>
arb (.of (aBin P .eql 22 (.tmp 5) (.const (.float .f64 0)) v_9 (.flt .f64 0)) h10) call fun v_11 h12 =>
cb v_11 (
arb (.val (.int .u64 0) h12) call fun v_13 h14 =>
k8 .ret (upd (upd (upd t 5 v_9) 6 v_11) 2 v_13) h14) (
k8 .normal (upd (upd t 5 v_9) 6 v_11) h12)

def S_float_Bits (P : Program) (call : FuncId → List AVal → Heap → Res AVal) (fuel : Nat) (x_a0 : AVal) (h : Heap) : Res AVal :=
lt (retK P [.tmp 2]) fun k =>
arb (.val (.int .u64 0) h) call fun v_0 h1 =>
lt (sqK (J_float_Bits_0 P call fuel k) k) fun k15 =>
arb (.val x_a0 h1) call fun v_16 h17 =>
arb (.call F_math_IsNaN [v_16] h17) call fun v_18 h19 =>
cb v_18 (
arb (.val (.int .u64 9221120237041090560) h19) call fun v_20 h21 =>
k15 .ret (upd (upd (upd (upd (enterT [x_a0]) 2 v_0) 3 v_16) 4 v_18) 2 v_20) h21) (
k15 .normal (upd (upd (upd (enterT [x_a0]) 2 v_0) 3 v_16) 4 v_18) h19)
theorem E_float_Bits (call : FuncId → List AVal → Heap → Res AVal) (fuel : Nat) (x_a0 : AVal) (h : Heap) : bodyR Try.prog call fuel Try.f38 [x_a0] h = S_float_Bits Try.prog call fuel x_a0 h := by kernel_rfl
theorem R_float_Bits {X : XTab} (x_a0 : AVal) {h : Heap} {Q : AVal → Heap → Prop} (hx : X F_float_Bits [x_a0] = none) (q : Tells (fun m => S_float_Bits Try.prog (acallX Try.prog X m) m x_a0 h) Q) :
    Tells (fun m => acallX Try.prog X m F_float_Bits [x_a0] h) Q :=
  Tells.later (q.le fun m => (E_float_Bits (acallX Try.prog X m) m x_a0 h) ▸ acallX_le Try.func38 hx m h)


end Go.Proofs.Ytjoniicebjpdaaa
