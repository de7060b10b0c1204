/-
  Functions of filter in the form of YtbolfamaffbnnaaABS (printed by a program of ours, gen.lean).
-/
import Derived.Test.YtbolfamaffbnnaaSIds
set_option linter.unusedVariables false
namespace Go.Proofs.Ytbolfamaffbnnaa
open Go.Ab
/-! ### precentor/filter.Right -/
def J_filter_Right_1 (P : Program) (call : FuncId → List AVal → Heap → Res AVal) (fuel : Nat) (k : Kn (AVal)) (t : T) (h : Heap) : Res (AVal) :=
arb (.val (.bool true) h) call fun v_2 h3 =>
k .ret (upd t 2 v_2) h3

def J_filter_Right_4 (P : Program) (call : FuncId → List AVal → Heap → Res AVal) (fuel : Nat) (k : Kn (Ex × T)) (t : T) (h : Heap) : Res (Ex × T) :=
arb (.of (aBin P .add 3 (.tmp 10) (.const (.int .i64 1)) (t 10) (.int .i64 1)) h) call fun v_14 h15 =>
arb (.val v_14 h15) call fun v_16 h17 =>
k .normal (upd (upd t 33 v_14) 10 v_16) h17

def J_filter_Right_3 (P : Program) (call : FuncId → List AVal → Heap → Res AVal) (fuel : Nat) (k : Kn (Ex × T)) (t : T) (h : Heap) : Res (Ex × T) :=
lt (sqK (J_filter_Right_4 P call fuel k) k) fun k18 =>
lt (blkK 1 k18) fun k19 =>
arb (.val (t 10) h) call fun v_20 h21 =>
arb (.of (ixsR 13 (t 8) (t 10)) h21) call fun v_22 h23 =>
arb (.of (ldn 13 h23 v_22) h23) call fun v_24 h25 =>
arb (newR [(.str (bs [])), (.int .i64 0), (.int .i64 0), (.int .i64 0), (.flt .f64 0), (.str (bs [])), (.bool false), (.int .i64 0), (.int .i64 0), (.flt .f64 0), (.str (bs [])), (.bool false), .nils] h25) call fun p_26 h27 =>
arb (.val v_20 h27) call fun i_28 h29 =>
arb (stR 13 h29 p_26 v_24) call fun v_30 h31 =>
obv (.of (ldn 13 h31 p_26) h31) fun v_32 => ifb true <|
arbE (.call F_pred_Right [v_32] h31) call fun v_34 h35 => lt h35 fun g35 => ifb (true && true) <|
obv (.of (aUn P .not v_34) g35) fun v_36 =>
obv (.val v_36 g35) fun v_38 =>
gdr (wantB v_38 false) (fun c => obv (.val i_28 g35) fun v_40 =>
c true v_40 g35) g35 fun w42 v_40 h42 =>
gdr (wantB v_38 false) (fun c => obv (.of (aBin P .gtr 3 (.tmp 19) (.const (.int .i64 0)) v_40 (.int .i64 0)) h42) fun v_43 =>
c true v_43 h42) h42 fun w45 v_43 h45 =>
gdr (wantB v_38 false) (fun c => obv (.val v_43 h45) fun v_46 =>
c true v_46 h45) h45 fun w48 v_46 h48 =>
gdr (wantB v_46 true) (fun c => obv (.val (t 0) h48) fun v_49 =>
c true v_49 h48) h48 fun w51 v_49 h51 =>
gdr (wantB v_46 true) (fun c => obv (.val i_28 h51) fun v_52 =>
c true v_52 h51) h51 fun w54 v_52 h54 =>
gdr (wantB v_46 true) (fun c => obv (.of (aBin P .sub 3 (.tmp 23) (.const (.int .i64 1)) v_52 (.int .i64 1)) h54) fun v_55 =>
c true v_55 h54) h54 fun w57 v_55 h57 =>
gdr (wantB v_46 true) (fun c => obv (.of (ixsR 13 v_49 v_55) h57) fun v_58 =>
c true v_58 h57) h57 fun w60 v_58 h60 =>
gdr (wantB v_46 true) (fun c => obv (.of (fadR 0 v_58) h60) fun v_61 =>
c true v_61 h60) h60 fun w63 v_61 h63 =>
gdr (wantB v_46 true) (fun c => obv (.of (ld1 h63 v_61) h63) fun v_64 => ifb true <|
c true v_64 h63) h63 fun w66 v_64 h66 =>
gdr (wantB v_46 true) (fun c => obv (.of (fadR 0 p_26) h66) fun v_67 =>
c true v_67 h66) h66 fun w69 v_67 h69 =>
gdr (wantB v_46 true) (fun c => obv (.of (ld1 h69 v_67) h69) fun v_70 => ifb true <|
c true v_70 h69) h69 fun w72 v_70 h72 =>
gdr (wantB v_46 true) (fun c => obv (.of (aBin P .gtr 9 (.tmp 27) (.tmp 29) v_64 v_70) h72) fun v_73 =>
c true v_73 h72) h72 fun w75 v_73 h75 =>
gdr (wantB v_38 false) (fun c => obv (pkR v_46 v_73 (.bool false) h75) fun v_76 =>
c true v_76 h75) h75 fun w78 v_76 h78 =>
obv (pkR v_38 (.bool true) v_76 h78) fun v_79 =>
cb v_79 (
arb (.val (.bool false) h78) call fun v_81 h82 =>
k19 .ret (upd (upd (upd (upd (upd (upd (upd (upd (upd (upd (upd (upd (upd (upd (upd (upd (upd (upd (upd (upd (upd (upd (upd (upd t 12 v_20) 13 v_22) 14 v_24) 4 p_26) 3 i_28) 15 v_32) 16 v_34) 17 v_36) 18 v_38) 19 v_40) 20 v_43) 21 v_46) 22 v_49) 23 v_52) 24 v_55) 25 v_58) 26 v_61) 27 v_64) 28 v_67) 29 v_70) 30 v_73) 31 v_76) 32 v_79) 2 v_81) h82) (
k19 .normal (upd (upd (upd (upd (upd (upd (upd (upd (upd (upd (upd (upd (upd (upd (upd (upd (upd (upd (upd (upd (upd (upd (upd t 12 v_20) 13 v_22) 14 v_24) 4 p_26) 3 i_28) 15 v_32) 16 v_34) 17 v_36) 18 v_38) 19 v_40) 20 v_43) 21 v_46) 22 v_49) 23 v_52) 24 v_55) 25 v_58) 26 v_61) 27 v_64) 28 v_67) 29 v_70) 30 v_73) 31 v_76) 32 v_79) h78)

def L_filter_Right_2 (P : Program) (call : FuncId → List AVal → Heap → Res AVal) (fuel : Nat) (t : T) (h : Heap) : Res (Ex × T) :=
lt okK fun k =>
arb (.of (aBin P .lss 3 (.tmp 10) (.tmp 9) (t 10) (t 9)) h) call fun v_12 h13 =>
lt (sqK (J_filter_Right_3 P call fuel k) k) fun k83 =>
cb v_12 (
k83 .normal (upd t 11 v_12) h13) (
k83 (.exit 0) (upd t 11 v_12) h13)

def J_filter_Right_0 (P : Program) (call : FuncId → List AVal → Heap → Res AVal) (fuel : Nat) (k : Kn (AVal)) (t : T) (h : Heap) : Res (AVal) :=
lt (sqK (J_filter_Right_1 P call fuel k) k) fun k4 =>
arb (.val (t 0) h) call fun v_5 h6 =>
arb (.of (lenL v_5) h6) call fun v_7 h8 =>
arb (.val (.int .i64 0) h8) call fun v_9 h10 =>
lt (blkK 0 k4) fun k11 =>
(loopN (L_filter_Right_2 P call fuel) fuel (upd (upd (upd t 8 v_5) 9 v_7) 10 v_9) h10).bind (lpK k11)

def S_filter_Right (P : Program) (call : FuncId → List AVal → Heap → Res AVal) (fuel : Nat) (f_a0 : AVal) (h : Heap) : Res AVal :=
lt (retK P [.tmp 2]) fun k =>
arb (.val (.bool false) h) call fun v_0 h1 =>
lt (sqK (J_filter_Right_0 P call fuel k) k) fun k84 =>
arb (.val f_a0 h1) call fun v_85 h86 =>
arb (.of (lenL v_85) h86) call fun v_87 h88 =>
arb (.of (aBin P .gtr 3 (.tmp 6) (.const (.int .i64 3)) v_87 (.int .i64 3)) h88) call fun v_89 h90 =>
cb v_89 (
arb (.val (.bool false) h90) call fun v_91 h92 =>
k84 .ret (upd (upd (upd (upd (upd (enterT [f_a0]) 2 v_0) 5 v_85) 6 v_87) 7 v_89) 2 v_91) h92) (
k84 .normal (upd (upd (upd (upd (enterT [f_a0]) 2 v_0) 5 v_85) 6 v_87) 7 v_89) h90)
theorem E_filter_Right (call : FuncId → List AVal → Heap → Res AVal) (fuel : Nat) (f_a0 : AVal) (h : Heap) : bodyR Try.prog call fuel Try.f34 [f_a0] h = S_filter_Right Try.prog call fuel f_a0 h := by kernel_rfl
theorem R_filter_Right {X : XTab} (f_a0 : AVal) {h : Heap} {Q : AVal → Heap → Prop} (hx : X F_filter_Right [f_a0] = none) (q : Tells (fun m => S_filter_Right Try.prog (acallX Try.prog X m) m f_a0 h) Q) :
    Tells (fun m => acallX Try.prog X m F_filter_Right [f_a0] h) Q :=
  Tells.later (q.le fun m => (E_filter_Right (acallX Try.prog X m) m f_a0 h) ▸ acallX_le Try.func34 hx m h)

/-! ### precentor/filter.Copy -/
def J_filter_Copy_0 (P : Program) (call : FuncId → List AVal → Heap → Res AVal) (fuel : Nat) (k : Kn (AVal)) (t : T) (h : Heap) : Res (AVal) :=
arb (.val (t 3) h) call fun v_8 h9 =>
arb (.val v_8 h9) call fun v_10 h11 =>
k .ret (upd (upd t 23 v_8) 2 v_10) h11

def J_filter_Copy_3 (P : Program) (call : FuncId → List AVal → Heap → Res AVal) (fuel : Nat) (k : Kn (Ex × T)) (t : T) (h : Heap) : Res (Ex × T) :=
arb (.of (aBin P .add 3 (.tmp 9) (.const (.int .i64 1)) (t 9) (.int .i64 1)) h) call fun v_22 h23 =>
arb (.val v_22 h23) call fun v_24 h25 =>
k .normal (upd (upd t 22 v_22) 9 v_24) h25

def J_filter_Copy_2 (P : Program) (call : FuncId → List AVal → Heap → Res AVal) (fuel : Nat) (k : Kn (Ex × T)) (t : T) (h : Heap) : Res (Ex × T) :=
lt (sqK (J_filter_Copy_3 P call fuel k) k) fun k26 =>
lt (blkK 1 k26) fun k27 =>
arb (.val (t 9) h) call fun v_28 h29 =>
arb (.val v_28 h29) call fun i_30 h31 =>
arb (.val (t 3) h31) call fun v_32 h33 =>
arb (.val i_30 h33) call fun v_34 h35 =>
arb (.val (t 3) h35) call fun v_36 h37 =>
arb (.val i_30 h37) call fun v_38 h39 =>
arb (.of (ixsR 13 v_36 v_38) h39) call fun v_40 h41 =>
arb (.of (fadR 12 v_40) h41) call fun v_42 h43 =>
arb (.of (ld1 h43 v_42) h43) call fun v_44 h45 =>
arb (appR 5 48 h45 .nils v_44) call fun v_46 h47 =>
arb (.of (ixsR 13 v_32 v_34) h47) call fun v_48 h49 =>
arb (.of (fadR 12 v_48) h49) call fun v_50 h51 =>
arb (stR 1 h51 v_50 v_46) call fun v_52 h53 =>
k27 .normal (upd (upd (upd (upd (upd (upd (upd (upd (upd (upd (upd (upd t 11 v_28) 4 i_30) 12 v_32) 13 v_34) 14 v_36) 15 v_38) 16 v_40) 17 v_42) 18 v_44) 19 v_46) 20 v_48) 21 v_50) h53

def L_filter_Copy_1 (P : Program) (call : FuncId → List AVal → Heap → Res AVal) (fuel : Nat) (t : T) (h : Heap) : Res (Ex × T) :=
lt okK fun k =>
arb (.of (aBin P .lss 3 (.tmp 9) (.tmp 8) (t 9) (t 8)) h) call fun v_20 h21 =>
lt (sqK (J_filter_Copy_2 P call fuel k) k) fun k54 =>
cb v_20 (
k54 .normal (upd t 10 v_20) h21) (
k54 (.exit 0) (upd t 10 v_20) h21)

def S_filter_Copy (P : Program) (call : FuncId → List AVal → Heap → Res AVal) (fuel : Nat) (f_a0 : AVal) (h : Heap) : Res AVal :=
lt (retK P [.tmp 2]) fun k =>
arb (.val .nils h) call fun v_0 h1 =>
arb (.val f_a0 h1) call fun v_2 h3 =>
arb (appR 13 144 h3 .nils v_2) call fun v_4 h5 =>
arb (.val v_4 h5) call fun out_6 h7 =>
lt (sqK (J_filter_Copy_0 P call fuel k) k) fun k12 =>
arb (.val out_6 h7) call fun v_13 h14 =>
arb (.of (lenL v_13) h14) call fun v_15 h16 =>
arb (.val (.int .i64 0) h16) call fun v_17 h18 =>
lt (blkK 0 k12) fun k19 =>
(loopN (L_filter_Copy_1 P call fuel) fuel (upd (upd (upd (upd (upd (upd (upd (enterT [f_a0]) 2 v_0) 5 v_2) 6 v_4) 3 out_6) 7 v_13) 8 v_15) 9 v_17) h18).bind (lpK k19)
theorem E_filter_Copy (call : FuncId → List AVal → Heap → Res AVal) (fuel : Nat) (f_a0 : AVal) (h : Heap) : bodyR Try.prog call fuel Try.f35 [f_a0] h = S_filter_Copy Try.prog call fuel f_a0 h := by kernel_rfl
theorem R_filter_Copy {X : XTab} (f_a0 : AVal) {h : Heap} {Q : AVal → Heap → Prop} (hx : X F_filter_Copy [f_a0] = none) (q : Tells (fun m => S_filter_Copy Try.prog (acallX Try.prog X m) m f_a0 h) Q) :
    Tells (fun m => acallX Try.prog X m F_filter_Copy [f_a0] h) Q :=
  Tells.later (q.le fun m => (E_filter_Copy (acallX Try.prog X m) m f_a0 h) ▸ acallX_le Try.func35 hx m h)


end Go.Proofs.Ytbolfamaffbnnaa
