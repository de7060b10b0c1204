/-
  Functions of value in the form of YtbolfamaffbnnaaABS (printed by a program of ours, gen.lean).
-/
import Derived.Test.YtbolfamaffbnnaaSIds
set_option linter.unusedVariables false
namespace Go.Proofs.Ytbolfamaffbnnaa
open Go.Ab
/-! ### precentor/value.Right -/
def J_value_Right_0 (P : Program) (call : FuncId → List AVal → Heap → Res AVal) (fuel : Nat) (k : Kn (AVal)) (t : T) (h : Heap) : Res (AVal) :=
arb (.of (ldn 5 h (t 3)) h) call fun v_14 h15 =>
arb (.of (bldR [(.int .i64 0), (.int .i64 0), (.flt .f64 0), (.str (bs [])), (.bool false)] []) h15) call fun v_16 h17 =>
arb (.of (aBin P .eql 35 (.tmp 20) (.tmp 21) v_14 v_16) h17) call fun v_18 h19 =>
arb (.val v_18 h19) call fun v_20 h21 =>
gd (wantB v_20 true) (fun c => arb (.of (fadR 3 (t 1)) h21) call c) h21 fun v_22 h23 =>
gd (wantB v_20 true) (fun c => arb (.of (ld1 h23 v_22) h23) call c) h23 fun v_24 h25 =>
gd (wantB v_20 true) (fun c => arb (.of (lenS v_24) h25) call c) h25 fun v_26 h27 =>
gd (wantB v_20 true) (fun c => arb (.of (aBin P .leq 3 (.tmp 26) (.const (.int .i64 12)) v_26 (.int .i64 12)) h27) call c) h27 fun v_28 h29 =>
arb (pkR v_20 v_28 (.bool false) h29) call fun v_30 h31 =>
arb (.val v_30 h31) call fun v_32 h33 =>
k .ret (upd (upd (upd (upd (upd (upd (upd (upd (upd (upd t 20 v_14) 21 v_16) 22 v_18) 23 v_20) 24 v_22) 25 v_24) 26 v_26) 27 v_28) 28 v_30) 2 v_32) h33

def S_value_Right (P : Program) (call : FuncId → List AVal → Heap → Res AVal) (fuel : Nat) (v_a0 : AVal) (h : Heap) : Res AVal :=
lt (retK P [.tmp 2]) fun k =>
arb (boxR v_a0 h) call fun v_0 h1 =>
arb (.val (.bool false) h1) call fun v_2 h3 =>
arb (.of (ldn 5 h3 v_0) h3) call fun v_4 h5 =>
arb (newR [(.int .i64 0), (.int .i64 0), (.flt .f64 0), (.str (bs [])), (.bool false)] h5) call fun rest_6 h7 =>
arb (stR 5 h7 rest_6 v_4) call fun v_8 h9 =>
arb (.of (fadR 0 rest_6) h9) call fun v_10 h11 =>
arb (stR 1 h11 v_10 (.int .i64 0)) call fun v_12 h13 =>
lt (sqK (J_value_Right_0 P call fuel k) k) fun k34 =>
arb (.of (fadR 0 v_0) h13) call fun v_35 h36 =>
arb (.of (ld1 h36 v_35) h36) call fun v_37 h38 =>
lt (blkK 0 k34) fun k39 =>
arb (.of (aBin P .eql 3 (.tmp 7) (.const (.int .i64 1)) v_37 (.int .i64 1)) h38) call fun v_40 h41 =>
arb (.val v_40 h41) call fun v_42 h43 =>
cb v_42 (
arb (.of (fadR 1 rest_6) h43) call fun v_44 h45 =>
arb (stR 1 h45 v_44 (.int .i64 0)) call fun v_46 h47 =>
k39 .normal (upd (upd (upd (upd (upd (upd (upd (upd (upd (upd (enterT [v_a0]) 1 v_0) 2 v_2) 4 v_4) 3 rest_6) 5 v_10) 6 v_35) 7 v_37) 9 v_40) 8 v_42) 10 v_44) h47) (
arb (.of (aBin P .eql 3 (.tmp 7) (.const (.int .i64 2)) v_37 (.int .i64 2)) h43) call fun v_48 h49 =>
arb (.val v_48 h49) call fun v_50 h51 =>
cb v_50 (
arb (.of (fadR 2 rest_6) h51) call fun v_52 h53 =>
arb (stR 1 h53 v_52 (.flt .f64 0)) call fun v_54 h55 =>
k39 .normal (upd (upd (upd (upd (upd (upd (upd (upd (upd (upd (upd (upd (enterT [v_a0]) 1 v_0) 2 v_2) 4 v_4) 3 rest_6) 5 v_10) 6 v_35) 7 v_37) 9 v_40) 8 v_42) 12 v_48) 11 v_50) 13 v_52) h55) (
arb (.of (aBin P .eql 3 (.tmp 7) (.const (.int .i64 3)) v_37 (.int .i64 3)) h51) call fun v_56 h57 =>
arb (.val v_56 h57) call fun v_58 h59 =>
cb v_58 (
arb (.of (fadR 3 rest_6) h59) call fun v_60 h61 =>
arb (stR 1 h61 v_60 (.str (bs []))) call fun v_62 h63 =>
k39 .normal (upd (upd (upd (upd (upd (upd (upd (upd (upd (upd (upd (upd (upd (upd (enterT [v_a0]) 1 v_0) 2 v_2) 4 v_4) 3 rest_6) 5 v_10) 6 v_35) 7 v_37) 9 v_40) 8 v_42) 12 v_48) 11 v_50) 15 v_56) 14 v_58) 16 v_60) h63) (
arb (.of (aBin P .eql 3 (.tmp 7) (.const (.int .i64 4)) v_37 (.int .i64 4)) h59) call fun v_64 h65 =>
arb (.val v_64 h65) call fun v_66 h67 =>
cb v_66 (
arb (.of (fadR 4 rest_6) h67) call fun v_68 h69 =>
arb (stR 1 h69 v_68 (.bool false)) call fun v_70 h71 =>
k39 .normal (upd (upd (upd (upd (upd (upd (upd (upd (upd (upd (upd (upd (upd (upd (upd (upd (enterT [v_a0]) 1 v_0) 2 v_2) 4 v_4) 3 rest_6) 5 v_10) 6 v_35) 7 v_37) 9 v_40) 8 v_42) 12 v_48) 11 v_50) 15 v_56) 14 v_58) 18 v_64) 17 v_66) 19 v_68) h71) (
arb (.val (.bool false) h67) call fun v_72 h73 =>
k39 .ret (upd (upd (upd (upd (upd (upd (upd (upd (upd (upd (upd (upd (upd (upd (upd (upd (enterT [v_a0]) 1 v_0) 2 v_2) 4 v_4) 3 rest_6) 5 v_10) 6 v_35) 7 v_37) 9 v_40) 8 v_42) 12 v_48) 11 v_50) 15 v_56) 14 v_58) 18 v_64) 17 v_66) 2 v_72) h73))))
theorem E_value_Right (call : FuncId → List AVal → Heap → Res AVal) (fuel : Nat) (v_a0 : AVal) (h : Heap) : bodyR Try.prog call fuel Try.f56 [v_a0] h = S_value_Right Try.prog call fuel v_a0 h := by kernel_rfl
theorem R_value_Right {X : XTab} (v_a0 : AVal) {h : Heap} {Q : AVal → Heap → Prop} (hx : X F_value_Right [v_a0] = none) (q : Tells (fun m => S_value_Right Try.prog (acallX Try.prog X m) m v_a0 h) Q) :
    Tells (fun m => acallX Try.prog X m F_value_Right [v_a0] h) Q :=
  Tells.later (q.le fun m => (E_value_Right (acallX Try.prog X m) m v_a0 h) ▸ acallX_le Try.func56 hx m h)

/-! ### precentor/value.Same -/

def S_value_Same (P : Program) (call : FuncId → List AVal → Heap → Res AVal) (fuel : Nat) (a_a0 b_a1 : AVal) (h : Heap) : Res AVal :=
lt (retK P [.tmp 4]) fun k =>
arb (boxR a_a0 h) call fun a_0 h1 =>
arb (boxR b_a1 h1) call fun b_2 h3 =>
arb (.val (.bool false) h3) call fun v_4 h5 =>
arb (.of (fadR 0 a_0) h5) call fun v_6 h7 =>
arb (.of (ld1 h7 v_6) h7) call fun v_8 h9 =>
arb (.of (fadR 0 b_2) h9) call fun v_10 h11 =>
arb (.of (ld1 h11 v_10) h11) call fun v_12 h13 =>
arb (.of (aBin P .eql 3 (.tmp 6) (.tmp 8) v_8 v_12) h13) call fun v_14 h15 =>
arb (.val v_14 h15) call fun v_16 h17 =>
gd (wantB v_16 true) (fun c => arb (.of (fadR 1 a_0) h17) call c) h17 fun v_18 h19 =>
gd (wantB v_16 true) (fun c => arb (.of (ld1 h19 v_18) h19) call c) h19 fun v_20 h21 =>
gd (wantB v_16 true) (fun c => arb (.of (fadR 1 b_2) h21) call c) h21 fun v_22 h23 =>
gd (wantB v_16 true) (fun c => arb (.of (ld1 h23 v_22) h23) call c) h23 fun v_24 h25 =>
gd (wantB v_16 true) (fun c => arb (.of (aBin P .eql 2 (.tmp 12) (.tmp 14) v_20 v_24) h25) call c) h25 fun v_26 h27 =>
arb (pkR v_16 v_26 (.bool false) h27) call fun v_28 h29 =>
arb (.val v_28 h29) call fun v_30 h31 =>
gd (wantB v_30 true) (fun c => arb (.of (fadR 3 a_0) h31) call c) h31 fun v_32 h33 =>
gd (wantB v_30 true) (fun c => arb (.of (ld1 h33 v_32) h33) call c) h33 fun v_34 h35 =>
gd (wantB v_30 true) (fun c => arb (.of (fadR 3 b_2) h35) call c) h35 fun v_36 h37 =>
gd (wantB v_30 true) (fun c => arb (.of (ld1 h37 v_36) h37) call c) h37 fun v_38 h39 =>
gd (wantB v_30 true) (fun c => arb (.of (aBin P .eql 9 (.tmp 19) (.tmp 21) v_34 v_38) h39) call c) h39 fun v_40 h41 =>
arb (pkR v_30 v_40 (.bool false) h41) call fun v_42 h43 =>
arb (.val v_42 h43) call fun v_44 h45 =>
gd (wantB v_44 true) (fun c => arb (.of (fadR 4 a_0) h45) call c) h45 fun v_46 h47 =>
gd (wantB v_44 true) (fun c => arb (.of (ld1 h47 v_46) h47) call c) h47 fun v_48 h49 =>
gd (wantB v_44 true) (fun c => arb (.of (fadR 4 b_2) h49) call c) h49 fun v_50 h51 =>
gd (wantB v_44 true) (fun c => arb (.of (ld1 h51 v_50) h51) call c) h51 fun v_52 h53 =>
gd (wantB v_44 true) (fun c => arb (.of (aBin P .eql 4 (.tmp 26) (.tmp 28) v_48 v_52) h53) call c) h53 fun v_54 h55 =>
arb (pkR v_44 v_54 (.bool false) h55) call fun v_56 h57 =>
arb (.val v_56 h57) call fun v_58 h59 =>
gd (wantB v_58 true) (fun c => arb (.of (fadR 2 a_0) h59) call c) h59 fun v_60 h61 =>
gd (wantB v_58 true) (fun c => arb (.of (ld1 h61 v_60) h61) call c) h61 fun v_62 h63 =>
gd (wantB v_58 true) (fun c => arb (.of (fadR 2 b_2) h63) call c) h63 fun v_64 h65 =>
gd (wantB v_58 true) (fun c => arb (.of (ld1 h65 v_64) h65) call c) h65 fun v_66 h67 =>
gd (wantB v_58 true) (fun c => arb (.call F_float_Same [v_62, v_66] h67) call c) h67 fun v_68 h69 =>
arb (pkR v_58 v_68 (.bool false) h69) call fun v_70 h71 =>
arb (.val v_70 h71) call fun v_72 h73 =>
k .ret (upd (upd (upd (upd (upd (upd (upd (upd (upd (upd (upd (upd (upd (upd (upd (upd (upd (upd (upd (upd (upd (upd (upd (upd (upd (upd (upd (upd (upd (upd (upd (upd (upd (upd (upd (upd (upd (enterT [a_a0, b_a1]) 2 a_0) 3 b_2) 4 v_4) 5 v_6) 6 v_8) 7 v_10) 8 v_12) 9 v_14) 10 v_16) 11 v_18) 12 v_20) 13 v_22) 14 v_24) 15 v_26) 16 v_28) 17 v_30) 18 v_32) 19 v_34) 20 v_36) 21 v_38) 22 v_40) 23 v_42) 24 v_44) 25 v_46) 26 v_48) 27 v_50) 28 v_52) 29 v_54) 30 v_56) 31 v_58) 32 v_60) 33 v_62) 34 v_64) 35 v_66) 36 v_68) 37 v_70) 4 v_72) h73
theorem E_value_Same (call : FuncId → List AVal → Heap → Res AVal) (fuel : Nat) (a_a0 b_a1 : AVal) (h : Heap) : bodyR Try.prog call fuel Try.f66 [a_a0, b_a1] h = S_value_Same Try.prog call fuel a_a0 b_a1 h := by kernel_rfl
theorem R_value_Same {X : XTab} (a_a0 b_a1 : AVal) {h : Heap} {Q : AVal → Heap → Prop} (hx : X F_value_Same [a_a0, b_a1] = none) (q : Tells (fun m => S_value_Same Try.prog (acallX Try.prog X m) m a_a0 b_a1 h) Q) :
    Tells (fun m => acallX Try.prog X m F_value_Same [a_a0, b_a1] h) Q :=
  Tells.later (q.le fun m => (E_value_Same (acallX Try.prog X m) m a_a0 b_a1 h) ▸ acallX_le Try.func66 hx m h)


end Go.Proofs.Ytbolfamaffbnnaa
