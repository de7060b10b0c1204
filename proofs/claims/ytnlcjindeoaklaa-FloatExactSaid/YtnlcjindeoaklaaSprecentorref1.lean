/-
  Functions of precentorref1 in the form of YtnlcjindeoaklaaABS (printed by a program of ours, gen.lean).
-/
import Derived.Test.YtnlcjindeoaklaaSIds
set_option linter.unusedVariables false
namespace Go.Proofs.Ytnlcjindeoaklaa
open Go.Ab
/-! ### precentor/precentorref1.Cmp -/
def J_precentorref1_Cmp_0 (P : Program) (call : FuncId → List AVal → Heap → Res AVal) (fuel : Nat) (k : Kn (AVal)) (t : T) (h : Heap) : Res (AVal) :=
arb (.val (.int .i64 0) h) call fun v_4 h5 =>
arb (.val (.bool true) h5) call fun v_6 h7 =>
k .ret (upd (upd t 4 v_4) 5 v_6) h7

def S_precentorref1_Cmp (P : Program) (call : FuncId → List AVal → Heap → Res AVal) (fuel : Nat) (a_a0 b_a1 : AVal) (h : Heap) : Res AVal :=
lt (retK P [.tmp 4, .tmp 5]) fun k =>
arb (.val (.int .i64 0) h) call fun v_0 h1 =>
arb (.val (.bool false) h1) call fun v_2 h3 =>
lt (sqK (J_precentorref1_Cmp_0 P call fuel k) k) fun k8 =>
lt (blkK 0 k8) fun k9 =>
arb (.val a_a0 h3) call fun v_10 h11 =>
arb (.val a_a0 h11) call fun v_12 h13 =>
arb (.of (aBin P .neq 22 (.tmp 7) (.tmp 8) v_10 v_12) h13) call fun v_14 h15 =>
arb (.val v_14 h15) call fun v_16 h17 =>
gd (wantB v_16 false) (fun c => arb (.val b_a1 h17) call c) h17 fun v_18 h19 =>
gd (wantB v_16 false) (fun c => arb (.val b_a1 h19) call c) h19 fun v_20 h21 =>
gd (wantB v_16 false) (fun c => arb (.of (aBin P .neq 22 (.tmp 11) (.tmp 12) v_18 v_20) h21) call c) h21 fun v_22 h23 =>
arb (pkR v_16 (.bool true) v_22 h23) call fun v_24 h25 =>
arb (.val v_24 h25) call fun v_26 h27 =>
cb v_26 (
arb (.val (.int .i64 0) h27) call fun v_28 h29 =>
arb (.val (.bool false) h29) call fun v_30 h31 =>
k9 .ret (upd (upd (upd (upd (upd (upd (upd (upd (upd (upd (upd (upd (upd (enterT [a_a0, b_a1]) 4 v_0) 5 v_2) 7 v_10) 8 v_12) 9 v_14) 10 v_16) 11 v_18) 12 v_20) 13 v_22) 14 v_24) 6 v_26) 4 v_28) 5 v_30) h31) (
arb (.val a_a0 h27) call fun v_32 h33 =>
arb (.val b_a1 h33) call fun v_34 h35 =>
arb (.of (aBin P .lss 22 (.tmp 16) (.tmp 17) v_32 v_34) h35) call fun v_36 h37 =>
arb (.val v_36 h37) call fun v_38 h39 =>
cb v_38 (
arb (.val (.int .i64 (-1)) h39) call fun v_40 h41 =>
arb (.val (.bool true) h41) call fun v_42 h43 =>
k9 .ret (upd (upd (upd (upd (upd (upd (upd (upd (upd (upd (upd (upd (upd (upd (upd (upd (upd (enterT [a_a0, b_a1]) 4 v_0) 5 v_2) 7 v_10) 8 v_12) 9 v_14) 10 v_16) 11 v_18) 12 v_20) 13 v_22) 14 v_24) 6 v_26) 16 v_32) 17 v_34) 18 v_36) 15 v_38) 4 v_40) 5 v_42) h43) (
arb (.val a_a0 h39) call fun v_44 h45 =>
arb (.val b_a1 h45) call fun v_46 h47 =>
arb (.of (aBin P .gtr 22 (.tmp 20) (.tmp 21) v_44 v_46) h47) call fun v_48 h49 =>
arb (.val v_48 h49) call fun v_50 h51 =>
cb v_50 (
arb (.val (.int .i64 1) h51) call fun v_52 h53 =>
arb (.val (.bool true) h53) call fun v_54 h55 =>
k9 .ret (upd (upd (upd (upd (upd (upd (upd (upd (upd (upd (upd (upd (upd (upd (upd (upd (upd (upd (upd (upd (upd (enterT [a_a0, b_a1]) 4 v_0) 5 v_2) 7 v_10) 8 v_12) 9 v_14) 10 v_16) 11 v_18) 12 v_20) 13 v_22) 14 v_24) 6 v_26) 16 v_32) 17 v_34) 18 v_36) 15 v_38) 20 v_44) 21 v_46) 22 v_48) 19 v_50) 4 v_52) 5 v_54) h55) (
k9 .normal (upd (upd (upd (upd (upd (upd (upd (upd (upd (upd (upd (upd (upd (upd (upd (upd (upd (upd (upd (enterT [a_a0, b_a1]) 4 v_0) 5 v_2) 7 v_10) 8 v_12) 9 v_14) 10 v_16) 11 v_18) 12 v_20) 13 v_22) 14 v_24) 6 v_26) 16 v_32) 17 v_34) 18 v_36) 15 v_38) 20 v_44) 21 v_46) 22 v_48) 19 v_50) h51)))
theorem E_precentorref1_Cmp (call : FuncId → List AVal → Heap → Res AVal) (fuel : Nat) (a_a0 b_a1 : AVal) (h : Heap) : bodyR Try.prog call fuel Try.f19 [a_a0, b_a1] h = S_precentorref1_Cmp Try.prog call fuel a_a0 b_a1 h := by kernel_rfl
theorem R_precentorref1_Cmp {X : XTab} (a_a0 b_a1 : AVal) {h : Heap} {Q : AVal → Heap → Prop} (hx : X F_precentorref1_Cmp [a_a0, b_a1] = none) (q : Tells (fun m => S_precentorref1_Cmp Try.prog (acallX Try.prog X m) m a_a0 b_a1 h) Q) :
    Tells (fun m => acallX Try.prog X m F_precentorref1_Cmp [a_a0, b_a1] h) Q :=
  Tells.later (q.le fun m => (E_precentorref1_Cmp (acallX Try.prog X m) m a_a0 b_a1 h) ▸ acallX_le Try.func19 hx m h)

/-! ### precentor/precentorref1.CmpInt -/
def J_precentorref1_CmpInt_1 (P : Program) (call : FuncId → List AVal → Heap → Res AVal) (fuel : Nat) (k : Kn (AVal)) (t : T) (h : Heap) : Res (AVal) :=
arb (.val (.int .i64 0) h) call fun v_16 h17 =>
arb (.val (.bool true) h17) call fun v_18 h19 =>
k .ret (upd (upd t 4 v_16) 5 v_18) h19

def J_precentorref1_CmpInt_0 (P : Program) (call : FuncId → List AVal → Heap → Res AVal) (fuel : Nat) (k : Kn (AVal)) (t : T) (h : Heap) : Res (AVal) :=
arb (.val (t 1) h) call fun v_4 h5 =>
arb (.call F_math_Trunc [v_4] h5) call fun v_6 h7 =>
arb (.val v_6 h7) call fun t_8 h9 =>
arb (.val t_8 h9) call fun v_10 h11 =>
arb (aConv P h11 22 2 v_10) call fun v_12 h13 =>
arb (.val v_12 h13) call fun w_14 h15 =>
lt (sqK (J_precentorref1_CmpInt_1 P call fuel k) k) fun k20 =>
lt (blkK 1 k20) fun k21 =>
arb (.val (t 0) h15) call fun v_22 h23 =>
arb (.val w_14 h23) call fun v_24 h25 =>
arb (.of (aBin P .lss 2 (.tmp 23) (.tmp 24) v_22 v_24) h25) call fun v_26 h27 =>
arb (.val v_26 h27) call fun v_28 h29 =>
cb v_28 (
arb (.val (.int .i64 (-1)) h29) call fun v_30 h31 =>
arb (.val (.bool true) h31) call fun v_32 h33 =>
k21 .ret (upd (upd (upd (upd (upd (upd (upd (upd (upd (upd (upd (upd t 18 v_4) 19 v_6) 6 t_8) 20 v_10) 21 v_12) 7 w_14) 23 v_22) 24 v_24) 25 v_26) 22 v_28) 4 v_30) 5 v_32) h33) (
arb (.val (t 0) h29) call fun v_34 h35 =>
arb (.val w_14 h35) call fun v_36 h37 =>
arb (.of (aBin P .gtr 2 (.tmp 27) (.tmp 28) v_34 v_36) h37) call fun v_38 h39 =>
arb (.val v_38 h39) call fun v_40 h41 =>
cb v_40 (
arb (.val (.int .i64 1) h41) call fun v_42 h43 =>
arb (.val (.bool true) h43) call fun v_44 h45 =>
k21 .ret (upd (upd (upd (upd (upd (upd (upd (upd (upd (upd (upd (upd (upd (upd (upd (upd t 18 v_4) 19 v_6) 6 t_8) 20 v_10) 21 v_12) 7 w_14) 23 v_22) 24 v_24) 25 v_26) 22 v_28) 27 v_34) 28 v_36) 29 v_38) 26 v_40) 4 v_42) 5 v_44) h45) (
arb (.val t_8 h41) call fun v_46 h47 =>
arb (.val (t 1) h47) call fun v_48 h49 =>
arb (.of (aBin P .lss 22 (.tmp 31) (.tmp 32) v_46 v_48) h49) call fun v_50 h51 =>
arb (.val v_50 h51) call fun v_52 h53 =>
cb v_52 (
arb (.val (.int .i64 (-1)) h53) call fun v_54 h55 =>
arb (.val (.bool true) h55) call fun v_56 h57 =>
k21 .ret (upd (upd (upd (upd (upd (upd (upd (upd (upd (upd (upd (upd (upd (upd (upd (upd (upd (upd (upd (upd t 18 v_4) 19 v_6) 6 t_8) 20 v_10) 21 v_12) 7 w_14) 23 v_22) 24 v_24) 25 v_26) 22 v_28) 27 v_34) 28 v_36) 29 v_38) 26 v_40) 31 v_46) 32 v_48) 33 v_50) 30 v_52) 4 v_54) 5 v_56) h57) (
arb (.val t_8 h53) call fun v_58 h59 =>
arb (.val (t 1) h59) call fun v_60 h61 =>
arb (.of (aBin P .gtr 22 (.tmp 35) (.tmp 36) v_58 v_60) h61) call fun v_62 h63 =>
arb (.val v_62 h63) call fun v_64 h65 =>
cb v_64 (
arb (.val (.int .i64 1) h65) call fun v_66 h67 =>
arb (.val (.bool true) h67) call fun v_68 h69 =>
k21 .ret (upd (upd (upd (upd (upd (upd (upd (upd (upd (upd (upd (upd (upd (upd (upd (upd (upd (upd (upd (upd (upd (upd (upd (upd t 18 v_4) 19 v_6) 6 t_8) 20 v_10) 21 v_12) 7 w_14) 23 v_22) 24 v_24) 25 v_26) 22 v_28) 27 v_34) 28 v_36) 29 v_38) 26 v_40) 31 v_46) 32 v_48) 33 v_50) 30 v_52) 35 v_58) 36 v_60) 37 v_62) 34 v_64) 4 v_66) 5 v_68) h69) (
k21 .normal (upd (upd (upd (upd (upd (upd (upd (upd (upd (upd (upd (upd (upd (upd (upd (upd (upd (upd (upd (upd (upd (upd t 18 v_4) 19 v_6) 6 t_8) 20 v_10) 21 v_12) 7 w_14) 23 v_22) 24 v_24) 25 v_26) 22 v_28) 27 v_34) 28 v_36) 29 v_38) 26 v_40) 31 v_46) 32 v_48) 33 v_50) 30 v_52) 35 v_58) 36 v_60) 37 v_62) 34 v_64) h65))))

def S_precentorref1_CmpInt (P : Program) (call : FuncId → List AVal → Heap → Res AVal) (fuel : Nat) (n_a0 x_a1 : AVal) (h : Heap) : Res AVal :=
lt (retK P [.tmp 4, .tmp 5]) fun k =>
arb (.val (.int .i64 0) h) call fun v_0 h1 =>
arb (.val (.bool false) h1) call fun v_2 h3 =>
lt (sqK (J_precentorref1_CmpInt_0 P call fuel k) k) fun k70 =>
lt (blkK 0 k70) fun k71 =>
arb (.val x_a1 h3) call fun v_72 h73 =>
arb (.val x_a1 h73) call fun v_74 h75 =>
arb (.of (aBin P .neq 22 (.tmp 9) (.tmp 10) v_72 v_74) h75) call fun v_76 h77 =>
arb (.val v_76 h77) call fun v_78 h79 =>
cb v_78 (
arb (.val (.int .i64 0) h79) call fun v_80 h81 =>
arb (.val (.bool false) h81) call fun v_82 h83 =>
k71 .ret (upd (upd (upd (upd (upd (upd (upd (upd (enterT [n_a0, x_a1]) 4 v_0) 5 v_2) 9 v_72) 10 v_74) 11 v_76) 8 v_78) 4 v_80) 5 v_82) h83) (
arb (.val x_a1 h79) call fun v_84 h85 =>
arb (.of (aBin P .geq 22 (.tmp 13) (.const (.float .f64 4890909195324358656)) v_84 (.flt .f64 4890909195324358656)) h85) call fun v_86 h87 =>
arb (.val v_86 h87) call fun v_88 h89 =>
cb v_88 (
arb (.val (.int .i64 (-1)) h89) call fun v_90 h91 =>
arb (.val (.bool true) h91) call fun v_92 h93 =>
k71 .ret (upd (upd (upd (upd (upd (upd (upd (upd (upd (upd (upd (enterT [n_a0, x_a1]) 4 v_0) 5 v_2) 9 v_72) 10 v_74) 11 v_76) 8 v_78) 13 v_84) 14 v_86) 12 v_88) 4 v_90) 5 v_92) h93) (
arb (.val x_a1 h89) call fun v_94 h95 =>
arb (.of (aBin P .lss 22 (.tmp 16) (.const (.float .f64 14114281232179134464)) v_94 (.flt .f64 14114281232179134464)) h95) call fun v_96 h97 =>
arb (.val v_96 h97) call fun v_98 h99 =>
cb v_98 (
arb (.val (.int .i64 1) h99) call fun v_100 h101 =>
arb (.val (.bool true) h101) call fun v_102 h103 =>
k71 .ret (upd (upd (upd (upd (upd (upd (upd (upd (upd (upd (upd (upd (upd (upd (enterT [n_a0, x_a1]) 4 v_0) 5 v_2) 9 v_72) 10 v_74) 11 v_76) 8 v_78) 13 v_84) 14 v_86) 12 v_88) 16 v_94) 17 v_96) 15 v_98) 4 v_100) 5 v_102) h103) (
k71 .normal (upd (upd (upd (upd (upd (upd (upd (upd (upd (upd (upd (upd (enterT [n_a0, x_a1]) 4 v_0) 5 v_2) 9 v_72) 10 v_74) 11 v_76) 8 v_78) 13 v_84) 14 v_86) 12 v_88) 16 v_94) 17 v_96) 15 v_98) h99)))
theorem E_precentorref1_CmpInt (call : FuncId → List AVal → Heap → Res AVal) (fuel : Nat) (n_a0 x_a1 : AVal) (h : Heap) : bodyR Try.prog call fuel Try.f20 [n_a0, x_a1] h = S_precentorref1_CmpInt Try.prog call fuel n_a0 x_a1 h := by kernel_rfl
theorem R_precentorref1_CmpInt {X : XTab} (n_a0 x_a1 : AVal) {h : Heap} {Q : AVal → Heap → Prop} (hx : X F_precentorref1_CmpInt [n_a0, x_a1] = none) (q : Tells (fun m => S_precentorref1_CmpInt Try.prog (acallX Try.prog X m) m n_a0 x_a1 h) Q) :
    Tells (fun m => acallX Try.prog X m F_precentorref1_CmpInt [n_a0, x_a1] h) Q :=
  Tells.later (q.le fun m => (E_precentorref1_CmpInt (acallX Try.prog X m) m n_a0 x_a1 h) ▸ acallX_le Try.func20 hx m h)

/-! ### precentor/precentorref1.Of -/
def J_precentorref1_Of_0 (P : Program) (call : FuncId → List AVal → Heap → Res AVal) (fuel : Nat) (k : Kn (AVal)) (t : T) (h : Heap) : Res (AVal) :=
arb (.val (t 4) h) call fun v_10 h11 =>
arb (.val v_10 h11) call fun v_12 h13 =>
arb (.val (.bool true) h13) call fun v_14 h15 =>
k .ret (upd (upd (upd t 11 v_10) 2 v_12) 3 v_14) h15

def S_precentorref1_Of (P : Program) (call : FuncId → List AVal → Heap → Res AVal) (fuel : Nat) (b_a0 : AVal) (h : Heap) : Res AVal :=
lt (retK P [.tmp 2, .tmp 3]) fun k =>
arb (.val (.flt .f64 0) h) call fun v_0 h1 =>
arb (.val (.bool false) h1) call fun v_2 h3 =>
arb (.val b_a0 h3) call fun v_4 h5 =>
arb (.of (aNat P F_math_Float64frombits [v_4]) h5) call fun v_6 h7 =>
arb (.val v_6 h7) call fun x_8 h9 =>
lt (sqK (J_precentorref1_Of_0 P call fuel k) k) fun k16 =>
arb (.val x_8 h9) call fun v_17 h18 =>
arb (.call F_precentorref1_Bits [v_17] h18) call fun v_19 h20 =>
arb (.val b_a0 h20) call fun v_21 h22 =>
arb (.of (aBin P .neq 31 (.tmp 8) (.tmp 9) v_19 v_21) h22) call fun v_23 h24 =>
cb v_23 (
arb (.val (.flt .f64 0) h24) call fun v_25 h26 =>
arb (.val (.bool false) h26) call fun v_27 h28 =>
k16 .ret (upd (upd (upd (upd (upd (upd (upd (upd (upd (upd (upd (enterT [b_a0]) 2 v_0) 3 v_2) 5 v_4) 6 v_6) 4 x_8) 7 v_17) 8 v_19) 9 v_21) 10 v_23) 2 v_25) 3 v_27) h28) (
k16 .normal (upd (upd (upd (upd (upd (upd (upd (upd (upd (enterT [b_a0]) 2 v_0) 3 v_2) 5 v_4) 6 v_6) 4 x_8) 7 v_17) 8 v_19) 9 v_21) 10 v_23) h24)
theorem E_precentorref1_Of (call : FuncId → List AVal → Heap → Res AVal) (fuel : Nat) (b_a0 : AVal) (h : Heap) : bodyR Try.prog call fuel Try.f21 [b_a0] h = S_precentorref1_Of Try.prog call fuel b_a0 h := by kernel_rfl
theorem R_precentorref1_Of {X : XTab} (b_a0 : AVal) {h : Heap} {Q : AVal → Heap → Prop} (hx : X F_precentorref1_Of [b_a0] = none) (q : Tells (fun m => S_precentorref1_Of Try.prog (acallX Try.prog X m) m b_a0 h) Q) :
    Tells (fun m => acallX Try.prog X m F_precentorref1_Of [b_a0] h) Q :=
  Tells.later (q.le fun m => (E_precentorref1_Of (acallX Try.prog X m) m b_a0 h) ▸ acallX_le Try.func21 hx m h)

/-! ### precentor/precentorref1.Bits -/
def J_precentorref1_Bits_1 (P : Program) (call : FuncId → List AVal → Heap → Res AVal) (fuel : Nat) (k : Kn (AVal)) (t : T) (h : Heap) : Res (AVal) :=
arb (.val (t 0) h) call fun v_2 h3 =>
arb (.of (aNat P F_math_Float64bits [v_2]) h3) call fun v_4 h5 =>
arb (.val v_4 h5) call fun v_6 h7 =>
k .ret (upd (upd (upd t 8 v_2) 9 v_4) 2 v_6) h7

def J_precentorref1_Bits_0 (P : Program) (call : FuncId → List AVal → Heap → Res AVal) (fuel : Nat) (k : Kn (AVal)) (t : T) (h : Heap) : Res (AVal) :=
lt (sqK (J_precentorref1_Bits_1 P call fuel k) k) fun k8 =>
arb (.val (t 0) h) call fun v_9 h10 =>
arb (.of (aBin P .eql 22 (.tmp 6) (.const (.float .f64 0)) v_9 (.flt .f64 0)) h10) call fun v_11 h12 =>
cb v_11 (
arb (.val (.int .u64 0) h12) call fun v_13 h14 =>
k8 .ret (upd (upd (upd t 6 v_9) 7 v_11) 2 v_13) h14) (
k8 .normal (upd (upd t 6 v_9) 7 v_11) h12)

def S_precentorref1_Bits (P : Program) (call : FuncId → List AVal → Heap → Res AVal) (fuel : Nat) (x_a0 : AVal) (h : Heap) : Res AVal :=
lt (retK P [.tmp 2]) fun k =>
arb (.val (.int .u64 0) h) call fun v_0 h1 =>
lt (sqK (J_precentorref1_Bits_0 P call fuel k) k) fun k15 =>
arb (.val x_a0 h1) call fun v_16 h17 =>
arb (.val x_a0 h17) call fun v_18 h19 =>
arb (.of (aBin P .neq 22 (.tmp 3) (.tmp 4) v_16 v_18) h19) call fun v_20 h21 =>
cb v_20 (
arb (.val (.int .u64 9221120237041090560) h21) call fun v_22 h23 =>
k15 .ret (upd (upd (upd (upd (upd (enterT [x_a0]) 2 v_0) 3 v_16) 4 v_18) 5 v_20) 2 v_22) h23) (
k15 .normal (upd (upd (upd (upd (enterT [x_a0]) 2 v_0) 3 v_16) 4 v_18) 5 v_20) h21)
theorem E_precentorref1_Bits (call : FuncId → List AVal → Heap → Res AVal) (fuel : Nat) (x_a0 : AVal) (h : Heap) : bodyR Try.prog call fuel Try.f23 [x_a0] h = S_precentorref1_Bits Try.prog call fuel x_a0 h := by kernel_rfl
theorem R_precentorref1_Bits {X : XTab} (x_a0 : AVal) {h : Heap} {Q : AVal → Heap → Prop} (hx : X F_precentorref1_Bits [x_a0] = none) (q : Tells (fun m => S_precentorref1_Bits Try.prog (acallX Try.prog X m) m x_a0 h) Q) :
    Tells (fun m => acallX Try.prog X m F_precentorref1_Bits [x_a0] h) Q :=
  Tells.later (q.le fun m => (E_precentorref1_Bits (acallX Try.prog X m) m x_a0 h) ▸ acallX_le Try.func23 hx m h)


end Go.Proofs.Ytnlcjindeoaklaa
