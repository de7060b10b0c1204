/-
  Functions of precentorref1 in the form of YtbolfamaffbnnaaABS (printed by a program of ours, gen.lean).
-/
import Derived.Test.YtbolfamaffbnnaaSIds
set_option linter.unusedVariables false
namespace Go.Proofs.Ytbolfamaffbnnaa
open Go.Ab
/-! ### precentor/precentorref1.RightFilter -/
def J_precentorref1_RightFilter_0 (P : Program) (call : FuncId → List AVal → Heap → Res AVal) (fuel : Nat) (k : Kn (AVal)) (t : T) (h : Heap) : Res (AVal) :=
arb (.val (t 0) h) call fun v_2 h3 =>
arb (.of (lenL v_2) h3) call fun v_4 h5 =>
arb (.of (aBin P .leq 3 (.tmp 35) (.const (.int .i64 3)) v_4 (.int .i64 3)) h5) call fun v_6 h7 =>
arb (.val v_6 h7) call fun v_8 h9 =>
k .ret (upd (upd (upd (upd t 34 v_2) 35 v_4) 36 v_6) 2 v_8) h9

def J_precentorref1_RightFilter_3 (P : Program) (call : FuncId → List AVal → Heap → Res AVal) (fuel : Nat) (k : Kn (Ex × T)) (t : T) (h : Heap) : Res (Ex × T) :=
arb (.val (t 3) h) call fun v_14 h15 =>
arb (.of (aBin P .add 3 (.tmp 8) (.const (.int .i64 1)) v_14 (.int .i64 1)) h15) call fun v_16 h17 =>
arb (.val v_16 h17) call fun i_18 h19 =>
k .normal (upd (upd (upd t 8 v_14) 9 v_16) 3 i_18) h19

def J_precentorref1_RightFilter_2 (P : Program) (call : FuncId → List AVal → Heap → Res AVal) (fuel : Nat) (k : Kn (Ex × T)) (t : T) (h : Heap) : Res (Ex × T) :=
lt (sqK (J_precentorref1_RightFilter_3 P call fuel k) k) fun k20 =>
lt (blkK 1 k20) fun k21 =>
obv (.val (t 0) h) fun v_22 =>
obv (.val (t 3) h) fun v_24 =>
obv (.of (ixsR 13 v_22 v_24) h) fun v_26 =>
obv (.of (ldn 13 h v_26) h) fun v_28 => ifb true <|
arbE (.call F_precentorref1_RightPred [v_28] h) call fun v_30 h31 => lt h31 fun g31 => ifb (true && true) <|
obv (.of (aUn P .not v_30) g31) fun v_32 =>
obv (.val v_32 g31) fun v_34 =>
gdr (wantB v_34 false) (fun c => obv (.val (t 3) g31) fun v_36 =>
c true v_36 g31) g31 fun w38 v_36 h38 =>
gdr (wantB v_34 false) (fun c => obv (.of (aBin P .gtr 3 (.tmp 17) (.const (.int .i64 0)) v_36 (.int .i64 0)) h38) fun v_39 =>
c true v_39 h38) h38 fun w41 v_39 h41 =>
gdr (wantB v_34 false) (fun c => obv (.val v_39 h41) fun v_42 =>
c true v_42 h41) h41 fun w44 v_42 h44 =>
gdr (wantB v_42 true) (fun c => obv (.val (t 0) h44) fun v_45 =>
c true v_45 h44) h44 fun w47 v_45 h47 =>
gdr (wantB v_42 true) (fun c => obv (.val (t 3) h47) fun v_48 =>
c true v_48 h47) h47 fun w50 v_48 h50 =>
gdr (wantB v_42 true) (fun c => obv (.of (aBin P .sub 3 (.tmp 21) (.const (.int .i64 1)) v_48 (.int .i64 1)) h50) fun v_51 =>
c true v_51 h50) h50 fun w53 v_51 h53 =>
gdr (wantB v_42 true) (fun c => obv (.of (ixsR 13 v_45 v_51) h53) fun v_54 =>
c true v_54 h53) h53 fun w56 v_54 h56 =>
gdr (wantB v_42 true) (fun c => obv (.of (fadR 0 v_54) h56) fun v_57 =>
c true v_57 h56) h56 fun w59 v_57 h59 =>
gdr (wantB v_42 true) (fun c => obv (.of (ld1 h59 v_57) h59) fun v_60 => ifb true <|
c true v_60 h59) h59 fun w62 v_60 h62 =>
gdr (wantB v_42 true) (fun c => obv (.val (t 0) h62) fun v_63 =>
c true v_63 h62) h62 fun w65 v_63 h65 =>
gdr (wantB v_42 true) (fun c => obv (.val (t 3) h65) fun v_66 =>
c true v_66 h65) h65 fun w68 v_66 h68 =>
gdr (wantB v_42 true) (fun c => obv (.of (ixsR 13 v_63 v_66) h68) fun v_69 =>
c true v_69 h68) h68 fun w71 v_69 h71 =>
gdr (wantB v_42 true) (fun c => obv (.of (fadR 0 v_69) h71) fun v_72 =>
c true v_72 h71) h71 fun w74 v_72 h74 =>
gdr (wantB v_42 true) (fun c => obv (.of (ld1 h74 v_72) h74) fun v_75 => ifb true <|
c true v_75 h74) h74 fun w77 v_75 h77 =>
gdr (wantB v_42 true) (fun c => obv (.of (aBin P .gtr 9 (.tmp 25) (.tmp 30) v_60 v_75) h77) fun v_78 =>
c true v_78 h77) h77 fun w80 v_78 h80 =>
gdr (wantB v_34 false) (fun c => obv (pkR v_42 v_78 (.bool false) h80) fun v_81 =>
c true v_81 h80) h80 fun w83 v_81 h83 =>
obv (pkR v_34 (.bool true) v_81 h83) fun v_84 =>
cb v_84 (
arb (.val (.bool false) h83) call fun v_86 h87 =>
k21 .ret (upd (upd (upd (upd (upd (upd (upd (upd (upd (upd (upd (upd (upd (upd (upd (upd (upd (upd (upd (upd (upd (upd (upd (upd (upd t 10 v_22) 11 v_24) 12 v_26) 13 v_28) 14 v_30) 15 v_32) 16 v_34) 17 v_36) 18 v_39) 19 v_42) 20 v_45) 21 v_48) 22 v_51) 23 v_54) 24 v_57) 25 v_60) 26 v_63) 27 v_66) 28 v_69) 29 v_72) 30 v_75) 31 v_78) 32 v_81) 33 v_84) 2 v_86) h87) (
k21 .normal (upd (upd (upd (upd (upd (upd (upd (upd (upd (upd (upd (upd (upd (upd (upd (upd (upd (upd (upd (upd (upd (upd (upd (upd t 10 v_22) 11 v_24) 12 v_26) 13 v_28) 14 v_30) 15 v_32) 16 v_34) 17 v_36) 18 v_39) 19 v_42) 20 v_45) 21 v_48) 22 v_51) 23 v_54) 24 v_57) 25 v_60) 26 v_63) 27 v_66) 28 v_69) 29 v_72) 30 v_75) 31 v_78) 32 v_81) 33 v_84) h83)

def L_precentorref1_RightFilter_1 (P : Program) (call : FuncId → List AVal → Heap → Res AVal) (fuel : Nat) (t : T) (h : Heap) : Res (Ex × T) :=
lt okK fun k =>
lt (sqK (J_precentorref1_RightFilter_2 P call fuel k) k) fun k88 =>
arb (.val (t 3) h) call fun v_89 h90 =>
arb (.val (t 0) h90) call fun v_91 h92 =>
arb (.of (lenL v_91) h92) call fun v_93 h94 =>
arb (.of (aBin P .lss 3 (.tmp 4) (.tmp 6) v_89 v_93) h94) call fun v_95 h96 =>
cb v_95 (
k88 .normal (upd (upd (upd (upd t 4 v_89) 5 v_91) 6 v_93) 7 v_95) h96) (
k88 (.exit 0) (upd (upd (upd (upd t 4 v_89) 5 v_91) 6 v_93) 7 v_95) h96)

def S_precentorref1_RightFilter (P : Program) (call : FuncId → List AVal → Heap → Res AVal) (fuel : Nat) (f_a0 : AVal) (h : Heap) : Res AVal :=
lt (retK P [.tmp 2]) fun k =>
arb (.val (.bool false) h) call fun v_0 h1 =>
lt (sqK (J_precentorref1_RightFilter_0 P call fuel k) k) fun k10 =>
arb (.val (.int .i64 0) h1) call fun i_11 h12 =>
lt (blkK 0 k10) fun k13 =>
(loopN (L_precentorref1_RightFilter_1 P call fuel) fuel (upd (upd (enterT [f_a0]) 2 v_0) 3 i_11) h12).bind (lpK k13)
theorem E_precentorref1_RightFilter (call : FuncId → List AVal → Heap → Res AVal) (fuel : Nat) (f_a0 : AVal) (h : Heap) : bodyR Try.prog call fuel Try.f41 [f_a0] h = S_precentorref1_RightFilter Try.prog call fuel f_a0 h := by kernel_rfl
theorem R_precentorref1_RightFilter {X : XTab} (f_a0 : AVal) {h : Heap} {Q : AVal → Heap → Prop} (hx : X F_precentorref1_RightFilter [f_a0] = none) (q : Tells (fun m => S_precentorref1_RightFilter Try.prog (acallX Try.prog X m) m f_a0 h) Q) :
    Tells (fun m => acallX Try.prog X m F_precentorref1_RightFilter [f_a0] h) Q :=
  Tells.later (q.le fun m => (E_precentorref1_RightFilter (acallX Try.prog X m) m f_a0 h) ▸ acallX_le Try.func41 hx m h)

/-! ### precentor/precentorref1.SameSub -/

def S_precentorref1_SameSub (P : Program) (call : FuncId → List AVal → Heap → Res AVal) (fuel : Nat) (a_a0 b_a1 : AVal) (h : Heap) : Res AVal :=
lt (retK P [.tmp 4]) fun k =>
arb (boxR a_a0 h) call fun a_0 h1 =>
arb (boxR b_a1 h1) call fun b_2 h3 =>
arb (.val (.bool false) h3) call fun v_4 h5 =>
arb (.of (fadR 0 a_0) h5) call fun v_6 h7 =>
arb (.of (ld1 h7 v_6) h7) call fun v_8 h9 =>
arb (.of (fadR 0 b_2) h9) call fun v_10 h11 =>
arb (.of (ld1 h11 v_10) h11) call fun v_12 h13 =>
arb (.of (aBin P .eql 3 (.tmp 6) (.tmp 8) v_8 v_12) h13) call fun v_14 h15 =>
arb (.val v_14 h15) call fun v_16 h17 =>
gd (wantB v_16 true) (fun c => arb (.of (fadR 1 a_0) h17) call c) h17 fun v_18 h19 =>
gd (wantB v_16 true) (fun c => arb (.of (ld1 h19 v_18) h19) call c) h19 fun v_20 h21 =>
gd (wantB v_16 true) (fun c => arb (.of (fadR 1 b_2) h21) call c) h21 fun v_22 h23 =>
gd (wantB v_16 true) (fun c => arb (.of (ld1 h23 v_22) h23) call c) h23 fun v_24 h25 =>
gd (wantB v_16 true) (fun c => arb (.of (aBin P .eql 3 (.tmp 12) (.tmp 14) v_20 v_24) h25) call c) h25 fun v_26 h27 =>
arb (pkR v_16 v_26 (.bool false) h27) call fun v_28 h29 =>
arb (.val v_28 h29) call fun v_30 h31 =>
gd (wantB v_30 true) (fun c => arb (.of (fadR 2 a_0) h31) call c) h31 fun v_32 h33 =>
gd (wantB v_30 true) (fun c => arb (.of (ld1 h33 v_32) h33) call c) h33 fun v_34 h35 =>
gd (wantB v_30 true) (fun c => arb (.of (fadR 2 b_2) h35) call c) h35 fun v_36 h37 =>
gd (wantB v_30 true) (fun c => arb (.of (ld1 h37 v_36) h37) call c) h37 fun v_38 h39 =>
gd (wantB v_30 true) (fun c => arb (.of (aBin P .eql 3 (.tmp 19) (.tmp 21) v_34 v_38) h39) call c) h39 fun v_40 h41 =>
arb (pkR v_30 v_40 (.bool false) h41) call fun v_42 h43 =>
arb (.val v_42 h43) call fun v_44 h45 =>
gd (wantB v_44 true) (fun c => arb (.of (fadR 3 a_0) h45) call c) h45 fun v_46 h47 =>
gd (wantB v_44 true) (fun c => arb (.of (ld1 h47 v_46) h47) call c) h47 fun v_48 h49 =>
gd (wantB v_44 true) (fun c => arb (.of (fadR 3 b_2) h49) call c) h49 fun v_50 h51 =>
gd (wantB v_44 true) (fun c => arb (.of (ld1 h51 v_50) h51) call c) h51 fun v_52 h53 =>
gd (wantB v_44 true) (fun c => arb (.call F_precentorref1_SameFilter [v_48, v_52] h53) call c) h53 fun v_54 h55 =>
arb (pkR v_44 v_54 (.bool false) h55) call fun v_56 h57 =>
arb (.val v_56 h57) call fun v_58 h59 =>
k .ret (upd (upd (upd (upd (upd (upd (upd (upd (upd (upd (upd (upd (upd (upd (upd (upd (upd (upd (upd (upd (upd (upd (upd (upd (upd (upd (upd (upd (upd (upd (enterT [a_a0, b_a1]) 2 a_0) 3 b_2) 4 v_4) 5 v_6) 6 v_8) 7 v_10) 8 v_12) 9 v_14) 10 v_16) 11 v_18) 12 v_20) 13 v_22) 14 v_24) 15 v_26) 16 v_28) 17 v_30) 18 v_32) 19 v_34) 20 v_36) 21 v_38) 22 v_40) 23 v_42) 24 v_44) 25 v_46) 26 v_48) 27 v_50) 28 v_52) 29 v_54) 30 v_56) 4 v_58) h59
theorem E_precentorref1_SameSub (call : FuncId → List AVal → Heap → Res AVal) (fuel : Nat) (a_a0 b_a1 : AVal) (h : Heap) : bodyR Try.prog call fuel Try.f42 [a_a0, b_a1] h = S_precentorref1_SameSub Try.prog call fuel a_a0 b_a1 h := by kernel_rfl
theorem R_precentorref1_SameSub {X : XTab} (a_a0 b_a1 : AVal) {h : Heap} {Q : AVal → Heap → Prop} (hx : X F_precentorref1_SameSub [a_a0, b_a1] = none) (q : Tells (fun m => S_precentorref1_SameSub Try.prog (acallX Try.prog X m) m a_a0 b_a1 h) Q) :
    Tells (fun m => acallX Try.prog X m F_precentorref1_SameSub [a_a0, b_a1] h) Q :=
  Tells.later (q.le fun m => (E_precentorref1_SameSub (acallX Try.prog X m) m a_a0 b_a1 h) ▸ acallX_le Try.func42 hx m h)

/-! ### precentor/precentorref1.SameAttrs -/
def J_precentorref1_SameAttrs_1 (P : Program) (call : FuncId → List AVal → Heap → Res AVal) (fuel : Nat) (k : Kn (AVal)) (t : T) (h : Heap) : Res (AVal) :=
arb (.val (.bool true) h) call fun v_2 h3 =>
k .ret (upd t 4 v_2) h3

def J_precentorref1_SameAttrs_4 (P : Program) (call : FuncId → List AVal → Heap → Res AVal) (fuel : Nat) (k : Kn (Ex × T)) (t : T) (h : Heap) : Res (Ex × T) :=
arb (.val (t 5) h) call fun v_8 h9 =>
arb (.of (aBin P .add 3 (.tmp 15) (.const (.int .i64 1)) v_8 (.int .i64 1)) h9) call fun v_10 h11 =>
arb (.val v_10 h11) call fun i_12 h13 =>
k .normal (upd (upd (upd t 15 v_8) 16 v_10) 5 i_12) h13

def J_precentorref1_SameAttrs_3 (P : Program) (call : FuncId → List AVal → Heap → Res AVal) (fuel : Nat) (k : Kn (Ex × T)) (t : T) (h : Heap) : Res (Ex × T) :=
lt (sqK (J_precentorref1_SameAttrs_4 P call fuel k) k) fun k14 =>
lt (blkK 1 k14) fun k15 =>
obv (.val (t 0) h) fun v_16 =>
obv (.val (t 5) h) fun v_18 =>
obv (.of (ixsR 6 v_16 v_18) h) fun v_20 =>
obv (.of (fadR 0 v_20) h) fun v_22 =>
obv (.of (ld1 h v_22) h) fun v_24 => ifb true <|
obv (.val (t 1) h) fun v_26 =>
obv (.val (t 5) h) fun v_28 =>
obv (.of (ixsR 6 v_26 v_28) h) fun v_30 =>
obv (.of (fadR 0 v_30) h) fun v_32 =>
obv (.of (ld1 h v_32) h) fun v_34 => ifb true <|
obv (.of (aBin P .neq 9 (.tmp 21) (.tmp 26) v_24 v_34) h) fun v_36 =>
obv (.val v_36 h) fun v_38 =>
gdr (wantB v_38 false) (fun c => obv (.val (t 0) h) fun v_40 =>
c true v_40 h) h fun w42 v_40 h42 =>
gdr (wantB v_38 false) (fun c => obv (.val (t 5) h42) fun v_43 =>
c true v_43 h42) h42 fun w45 v_43 h45 =>
gdr (wantB v_38 false) (fun c => obv (.of (ixsR 6 v_40 v_43) h45) fun v_46 =>
c true v_46 h45) h45 fun w48 v_46 h48 =>
gdr (wantB v_38 false) (fun c => obv (.of (fadR 1 v_46) h48) fun v_49 =>
c true v_49 h48) h48 fun w51 v_49 h51 =>
gdr (wantB v_38 false) (fun c => obv (.of (ldn 5 h51 v_49) h51) fun v_52 => ifb true <|
c true v_52 h51) h51 fun w54 v_52 h54 =>
gdr (wantB v_38 false) (fun c => obv (.val (t 1) h54) fun v_55 =>
c true v_55 h54) h54 fun w57 v_55 h57 =>
gdr (wantB v_38 false) (fun c => obv (.val (t 5) h57) fun v_58 =>
c true v_58 h57) h57 fun w60 v_58 h60 =>
gdr (wantB v_38 false) (fun c => obv (.of (ixsR 6 v_55 v_58) h60) fun v_61 =>
c true v_61 h60) h60 fun w63 v_61 h63 =>
gdr (wantB v_38 false) (fun c => obv (.of (fadR 1 v_61) h63) fun v_64 =>
c true v_64 h63) h63 fun w66 v_64 h66 =>
gdr (wantB v_38 false) (fun c => obv (.of (ldn 5 h66 v_64) h66) fun v_67 => ifb true <|
c true v_67 h66) h66 fun w69 v_67 h69 =>
gdr (wantB v_38 false) (fun c => arbE (.call F_precentorref1_SameValue [v_52, v_67] h69) call fun v_70 h71 => lt h71 fun g71 => ifb (true && true) <|
c true v_70 g71) h69 fun w72 v_70 h72 =>
gdr (wantB v_38 false) (fun c => obv (.of (aUn P .not v_70) h72) fun v_73 =>
c true v_73 h72) h72 fun w75 v_73 h75 =>
obv (pkR v_38 (.bool true) v_73 h75) fun v_76 =>
cb v_76 (
arb (.val (.bool false) h75) call fun v_78 h79 =>
k15 .ret (upd (upd (upd (upd (upd (upd (upd (upd (upd (upd (upd (upd (upd (upd (upd (upd (upd (upd (upd (upd (upd (upd (upd (upd (upd (upd t 17 v_16) 18 v_18) 19 v_20) 20 v_22) 21 v_24) 22 v_26) 23 v_28) 24 v_30) 25 v_32) 26 v_34) 27 v_36) 28 v_38) 29 v_40) 30 v_43) 31 v_46) 32 v_49) 33 v_52) 34 v_55) 35 v_58) 36 v_61) 37 v_64) 38 v_67) 39 v_70) 40 v_73) 41 v_76) 4 v_78) h79) (
k15 .normal (upd (upd (upd (upd (upd (upd (upd (upd (upd (upd (upd (upd (upd (upd (upd (upd (upd (upd (upd (upd (upd (upd (upd (upd (upd t 17 v_16) 18 v_18) 19 v_20) 20 v_22) 21 v_24) 22 v_26) 23 v_28) 24 v_30) 25 v_32) 26 v_34) 27 v_36) 28 v_38) 29 v_40) 30 v_43) 31 v_46) 32 v_49) 33 v_52) 34 v_55) 35 v_58) 36 v_61) 37 v_64) 38 v_67) 39 v_70) 40 v_73) 41 v_76) h75)

def L_precentorref1_SameAttrs_2 (P : Program) (call : FuncId → List AVal → Heap → Res AVal) (fuel : Nat) (t : T) (h : Heap) : Res (Ex × T) :=
lt okK fun k =>
lt (sqK (J_precentorref1_SameAttrs_3 P call fuel k) k) fun k80 =>
arb (.val (t 5) h) call fun v_81 h82 =>
arb (.val (t 0) h82) call fun v_83 h84 =>
arb (.of (lenL v_83) h84) call fun v_85 h86 =>
arb (.of (aBin P .lss 3 (.tmp 11) (.tmp 13) v_81 v_85) h86) call fun v_87 h88 =>
cb v_87 (
k80 .normal (upd (upd (upd (upd t 11 v_81) 12 v_83) 13 v_85) 14 v_87) h88) (
k80 (.exit 0) (upd (upd (upd (upd t 11 v_81) 12 v_83) 13 v_85) 14 v_87) h88)

def J_precentorref1_SameAttrs_0 (P : Program) (call : FuncId → List AVal → Heap → Res AVal) (fuel : Nat) (k : Kn (AVal)) (t : T) (h : Heap) : Res (AVal) :=
lt (sqK (J_precentorref1_SameAttrs_1 P call fuel k) k) fun k4 =>
arb (.val (.int .i64 0) h) call fun i_5 h6 =>
lt (blkK 0 k4) fun k7 =>
(loopN (L_precentorref1_SameAttrs_2 P call fuel) fuel (upd t 5 i_5) h6).bind (lpK k7)

def S_precentorref1_SameAttrs (P : Program) (call : FuncId → List AVal → Heap → Res AVal) (fuel : Nat) (a_a0 b_a1 : AVal) (h : Heap) : Res AVal :=
lt (retK P [.tmp 4]) fun k =>
arb (.val (.bool false) h) call fun v_0 h1 =>
lt (sqK (J_precentorref1_SameAttrs_0 P call fuel k) k) fun k89 =>
arb (.val a_a0 h1) call fun v_90 h91 =>
arb (.of (lenL v_90) h91) call fun v_92 h93 =>
arb (.val b_a1 h93) call fun v_94 h95 =>
arb (.of (lenL v_94) h95) call fun v_96 h97 =>
arb (.of (aBin P .neq 3 (.tmp 7) (.tmp 9) v_92 v_96) h97) call fun v_98 h99 =>
cb v_98 (
arb (.val (.bool false) h99) call fun v_100 h101 =>
k89 .ret (upd (upd (upd (upd (upd (upd (upd (enterT [a_a0, b_a1]) 4 v_0) 6 v_90) 7 v_92) 8 v_94) 9 v_96) 10 v_98) 4 v_100) h101) (
k89 .normal (upd (upd (upd (upd (upd (upd (enterT [a_a0, b_a1]) 4 v_0) 6 v_90) 7 v_92) 8 v_94) 9 v_96) 10 v_98) h99)
theorem E_precentorref1_SameAttrs (call : FuncId → List AVal → Heap → Res AVal) (fuel : Nat) (a_a0 b_a1 : AVal) (h : Heap) : bodyR Try.prog call fuel Try.f46 [a_a0, b_a1] h = S_precentorref1_SameAttrs Try.prog call fuel a_a0 b_a1 h := by kernel_rfl
theorem R_precentorref1_SameAttrs {X : XTab} (a_a0 b_a1 : AVal) {h : Heap} {Q : AVal → Heap → Prop} (hx : X F_precentorref1_SameAttrs [a_a0, b_a1] = none) (q : Tells (fun m => S_precentorref1_SameAttrs Try.prog (acallX Try.prog X m) m a_a0 b_a1 h) Q) :
    Tells (fun m => acallX Try.prog X m F_precentorref1_SameAttrs [a_a0, b_a1] h) Q :=
  Tells.later (q.le fun m => (E_precentorref1_SameAttrs (acallX Try.prog X m) m a_a0 b_a1 h) ▸ acallX_le Try.func46 hx m h)

/-! ### precentor/precentorref1.RightPred -/
def J_precentorref1_RightPred_1 (P : Program) (call : FuncId → List AVal → Heap → Res AVal) (fuel : Nat) (k : Kn (AVal)) (t : T) (h : Heap) : Res (AVal) :=
arb (.val (.bool false) h) call fun v_4 h5 =>
k .ret (upd t 2 v_4) h5

def J_precentorref1_RightPred_3 (P : Program) (call : FuncId → List AVal → Heap → Res AVal) (fuel : Nat) (k : Kn (AVal)) (t : T) (h : Heap) : Res (AVal) :=
arb (.of (fadR 2 (t 1)) h) call fun v_160 h161 =>
arb (.of (ldn 5 h161 v_160) h161) call fun v_162 h163 =>
arb (.call F_precentorref1_zero [v_162] h163) call fun v_164 h165 =>
arb (.val v_164 h165) call fun v_166 h167 =>
gd (wantB v_166 true) (fun c => arb (.of (fadR 7 (t 1)) h167) call c) h167 fun v_168 h169 =>
gd (wantB v_166 true) (fun c => arb (.of (ldn 5 h169 v_168) h169) call c) h169 fun v_170 h171 =>
gd (wantB v_166 true) (fun c => arb (.call F_precentorref1_zero [v_170] h171) call c) h171 fun v_172 h173 =>
arb (pkR v_166 v_172 (.bool false) h173) call fun v_174 h175 =>
arb (.val v_174 h175) call fun v_176 h177 =>
gd (wantB v_176 true) (fun c => arb (.of (fadR 12 (t 1)) h177) call c) h177 fun v_178 h179 =>
gd (wantB v_176 true) (fun c => arb (.of (ld1 h179 v_178) h179) call c) h179 fun v_180 h181 =>
gd (wantB v_176 true) (fun c => arb (.of (lenL v_180) h181) call c) h181 fun v_182 h183 =>
gd (wantB v_176 true) (fun c => arb (.of (aBin P .geq 3 (.tmp 112) (.const (.int .i64 1)) v_182 (.int .i64 1)) h183) call c) h183 fun v_184 h185 =>
arb (pkR v_176 v_184 (.bool false) h185) call fun v_186 h187 =>
arb (.val v_186 h187) call fun v_188 h189 =>
gd (wantB v_188 true) (fun c => arb (.of (fadR 12 (t 1)) h189) call c) h189 fun v_190 h191 =>
gd (wantB v_188 true) (fun c => arb (.of (ld1 h191 v_190) h191) call c) h191 fun v_192 h193 =>
gd (wantB v_188 true) (fun c => arb (.of (lenL v_192) h193) call c) h193 fun v_194 h195 =>
gd (wantB v_188 true) (fun c => arb (.of (aBin P .leq 3 (.tmp 118) (.const (.int .i64 4)) v_194 (.int .i64 4)) h195) call c) h195 fun v_196 h197 =>
arb (pkR v_188 v_196 (.bool false) h197) call fun v_198 h199 =>
arb (.val v_198 h199) call fun v_200 h201 =>
k .ret (upd (upd (upd (upd (upd (upd (upd (upd (upd (upd (upd (upd (upd (upd (upd (upd (upd (upd (upd (upd (upd t 101 v_160) 102 v_162) 103 v_164) 104 v_166) 105 v_168) 106 v_170) 107 v_172) 108 v_174) 109 v_176) 110 v_178) 111 v_180) 112 v_182) 113 v_184) 114 v_186) 115 v_188) 116 v_190) 117 v_192) 118 v_194) 119 v_196) 120 v_198) 2 v_200) h201

def J_precentorref1_RightPred_6 (P : Program) (call : FuncId → List AVal → Heap → Res AVal) (fuel : Nat) (k : Kn (Ex × T)) (t : T) (h : Heap) : Res (Ex × T) :=
arb (.val (t 3) h) call fun v_206 h207 =>
arb (.of (aBin P .add 3 (.tmp 92) (.const (.int .i64 1)) v_206 (.int .i64 1)) h207) call fun v_208 h209 =>
arb (.val v_208 h209) call fun i_210 h211 =>
k .normal (upd (upd (upd t 92 v_206) 93 v_208) 3 i_210) h211

def J_precentorref1_RightPred_5 (P : Program) (call : FuncId → List AVal → Heap → Res AVal) (fuel : Nat) (k : Kn (Ex × T)) (t : T) (h : Heap) : Res (Ex × T) :=
lt (sqK (J_precentorref1_RightPred_6 P call fuel k) k) fun k212 =>
lt (blkK 2 k212) fun k213 =>
arb (.of (fadR 12 (t 1)) h) call fun v_214 h215 =>
arb (.of (ld1 h215 v_214) h215) call fun v_216 h217 =>
arb (.val (t 3) h217) call fun v_218 h219 =>
arb (.of (ixsR 5 v_216 v_218) h219) call fun v_220 h221 =>
arb (.of (ldn 5 h221 v_220) h221) call fun v_222 h223 =>
arb (.call F_precentorref1_RightValue [v_222] h223) call fun v_224 h225 =>
arb (.of (aUn P .not v_224) h225) call fun v_226 h227 =>
cb v_226 (
arb (.val (.bool false) h227) call fun v_228 h229 =>
k213 .ret (upd (upd (upd (upd (upd (upd (upd (upd t 94 v_214) 95 v_216) 96 v_218) 97 v_220) 98 v_222) 99 v_224) 100 v_226) 2 v_228) h229) (
k213 .normal (upd (upd (upd (upd (upd (upd (upd t 94 v_214) 95 v_216) 96 v_218) 97 v_220) 98 v_222) 99 v_224) 100 v_226) h227)

def L_precentorref1_RightPred_4 (P : Program) (call : FuncId → List AVal → Heap → Res AVal) (fuel : Nat) (t : T) (h : Heap) : Res (Ex × T) :=
lt okK fun k =>
lt (sqK (J_precentorref1_RightPred_5 P call fuel k) k) fun k230 =>
arb (.val (t 3) h) call fun v_231 h232 =>
arb (.of (fadR 12 (t 1)) h232) call fun v_233 h234 =>
arb (.of (ld1 h234 v_233) h234) call fun v_235 h236 =>
arb (.of (lenL v_235) h236) call fun v_237 h238 =>
arb (.of (aBin P .lss 3 (.tmp 87) (.tmp 90) v_231 v_237) h238) call fun v_239 h240 =>
cb v_239 (
k230 .normal (upd (upd (upd (upd (upd t 87 v_231) 88 v_233) 89 v_235) 90 v_237) 91 v_239) h240) (
k230 (.exit 1) (upd (upd (upd (upd (upd t 87 v_231) 88 v_233) 89 v_235) 90 v_237) 91 v_239) h240)

def J_precentorref1_RightPred_2 (P : Program) (call : FuncId → List AVal → Heap → Res AVal) (fuel : Nat) (k : Kn (AVal)) (t : T) (h : Heap) : Res (AVal) :=
cb (t 26) (
arb (.of (fadR 2 (t 1)) h) call fun v_46 h47 =>
arb (.of (ldn 5 h47 v_46) h47) call fun v_48 h49 =>
arb (.call F_precentorref1_RightValue [v_48] h49) call fun v_50 h51 =>
arb (.val v_50 h51) call fun v_52 h53 =>
gd (wantB v_52 true) (fun c => arb (.of (fadR 7 (t 1)) h53) call c) h53 fun v_54 h55 =>
gd (wantB v_52 true) (fun c => arb (.of (ldn 5 h55 v_54) h55) call c) h55 fun v_56 h57 =>
gd (wantB v_52 true) (fun c => arb (.call F_precentorref1_zero [v_56] h57) call c) h57 fun v_58 h59 =>
arb (pkR v_52 v_58 (.bool false) h59) call fun v_60 h61 =>
arb (.val v_60 h61) call fun v_62 h63 =>
gd (wantB v_62 true) (fun c => arb (.of (fadR 12 (t 1)) h63) call c) h63 fun v_64 h65 =>
gd (wantB v_62 true) (fun c => arb (.of (ld1 h65 v_64) h65) call c) h65 fun v_66 h67 =>
gd (wantB v_62 true) (fun c => arb (.of (lenL v_66) h67) call c) h67 fun v_68 h69 =>
gd (wantB v_62 true) (fun c => arb (.of (aBin P .eql 3 (.tmp 44) (.const (.int .i64 0)) v_68 (.int .i64 0)) h69) call c) h69 fun v_70 h71 =>
arb (pkR v_62 v_70 (.bool false) h71) call fun v_72 h73 =>
arb (.val v_72 h73) call fun v_74 h75 =>
k .ret (upd (upd (upd (upd (upd (upd (upd (upd (upd (upd (upd (upd (upd (upd (upd t 33 v_46) 34 v_48) 35 v_50) 36 v_52) 37 v_54) 38 v_56) 39 v_58) 40 v_60) 41 v_62) 42 v_64) 43 v_66) 44 v_68) 45 v_70) 46 v_72) 2 v_74) h75) (
arb (.of (aBin P .eql 3 (.tmp 9) (.const (.int .i64 8)) (t 9) (.int .i64 8)) h) call fun v_76 h77 =>
arb (.val v_76 h77) call fun v_78 h79 =>
cb v_78 (
arb (.of (fadR 2 (t 1)) h79) call fun v_80 h81 =>
arb (.of (ldn 5 h81 v_80) h81) call fun v_82 h83 =>
arb (.call F_precentorref1_RightValue [v_82] h83) call fun v_84 h85 =>
arb (.val v_84 h85) call fun v_86 h87 =>
gd (wantB v_86 true) (fun c => arb (.of (fadR 7 (t 1)) h87) call c) h87 fun v_88 h89 =>
gd (wantB v_86 true) (fun c => arb (.of (ldn 5 h89 v_88) h89) call c) h89 fun v_90 h91 =>
gd (wantB v_86 true) (fun c => arb (.call F_precentorref1_RightValue [v_90] h91) call c) h91 fun v_92 h93 =>
arb (pkR v_86 v_92 (.bool false) h93) call fun v_94 h95 =>
arb (.val v_94 h95) call fun v_96 h97 =>
gd (wantB v_96 true) (fun c => arb (.of (fadR 12 (t 1)) h97) call c) h97 fun v_98 h99 =>
gd (wantB v_96 true) (fun c => arb (.of (ld1 h99 v_98) h99) call c) h99 fun v_100 h101 =>
gd (wantB v_96 true) (fun c => arb (.of (lenL v_100) h101) call c) h101 fun v_102 h103 =>
gd (wantB v_96 true) (fun c => arb (.of (aBin P .eql 3 (.tmp 60) (.const (.int .i64 0)) v_102 (.int .i64 0)) h103) call c) h103 fun v_104 h105 =>
arb (pkR v_96 v_104 (.bool false) h105) call fun v_106 h107 =>
arb (.val v_106 h107) call fun v_108 h109 =>
k .ret (upd (upd (upd (upd (upd (upd (upd (upd (upd (upd (upd (upd (upd (upd (upd (upd (upd t 48 v_76) 47 v_78) 49 v_80) 50 v_82) 51 v_84) 52 v_86) 53 v_88) 54 v_90) 55 v_92) 56 v_94) 57 v_96) 58 v_98) 59 v_100) 60 v_102) 61 v_104) 62 v_106) 2 v_108) h109) (
arb (.of (aBin P .eql 3 (.tmp 9) (.const (.int .i64 9)) (t 9) (.int .i64 9)) h79) call fun v_110 h111 =>
arb (.val v_110 h111) call fun v_112 h113 =>
cb v_112 (
arb (.of (fadR 2 (t 1)) h113) call fun v_114 h115 =>
arb (.of (ldn 5 h115 v_114) h115) call fun v_116 h117 =>
arb (.call F_precentorref1_RightValue [v_116] h117) call fun v_118 h119 =>
arb (.val v_118 h119) call fun v_120 h121 =>
gd (wantB v_120 true) (fun c => arb (.of (fadR 2 (t 1)) h121) call c) h121 fun v_122 h123 =>
gd (wantB v_120 true) (fun c => arb (.of (fadR 0 v_122) h123) call c) h123 fun v_124 h125 =>
gd (wantB v_120 true) (fun c => arb (.of (ld1 h125 v_124) h125) call c) h125 fun v_126 h127 =>
gd (wantB v_120 true) (fun c => arb (.of (aBin P .eql 3 (.tmp 71) (.const (.int .i64 3)) v_126 (.int .i64 3)) h127) call c) h127 fun v_128 h129 =>
arb (pkR v_120 v_128 (.bool false) h129) call fun v_130 h131 =>
arb (.val v_130 h131) call fun v_132 h133 =>
gd (wantB v_132 true) (fun c => arb (.of (fadR 7 (t 1)) h133) call c) h133 fun v_134 h135 =>
gd (wantB v_132 true) (fun c => arb (.of (ldn 5 h135 v_134) h135) call c) h135 fun v_136 h137 =>
gd (wantB v_132 true) (fun c => arb (.call F_precentorref1_zero [v_136] h137) call c) h137 fun v_138 h139 =>
arb (pkR v_132 v_138 (.bool false) h139) call fun v_140 h141 =>
arb (.val v_140 h141) call fun v_142 h143 =>
gd (wantB v_142 true) (fun c => arb (.of (fadR 12 (t 1)) h143) call c) h143 fun v_144 h145 =>
gd (wantB v_142 true) (fun c => arb (.of (ld1 h145 v_144) h145) call c) h145 fun v_146 h147 =>
gd (wantB v_142 true) (fun c => arb (.of (lenL v_146) h147) call c) h147 fun v_148 h149 =>
gd (wantB v_142 true) (fun c => arb (.of (aBin P .eql 3 (.tmp 82) (.const (.int .i64 0)) v_148 (.int .i64 0)) h149) call c) h149 fun v_150 h151 =>
arb (pkR v_142 v_150 (.bool false) h151) call fun v_152 h153 =>
arb (.val v_152 h153) call fun v_154 h155 =>
k .ret (upd (upd (upd (upd (upd (upd (upd (upd (upd (upd (upd (upd (upd (upd (upd (upd (upd (upd (upd (upd (upd (upd (upd (upd (upd t 48 v_76) 47 v_78) 64 v_110) 63 v_112) 65 v_114) 66 v_116) 67 v_118) 68 v_120) 69 v_122) 70 v_124) 71 v_126) 72 v_128) 73 v_130) 74 v_132) 75 v_134) 76 v_136) 77 v_138) 78 v_140) 79 v_142) 80 v_144) 81 v_146) 82 v_148) 83 v_150) 84 v_152) 2 v_154) h155) (
arb (.of (aBin P .eql 3 (.tmp 9) (.const (.int .i64 10)) (t 9) (.int .i64 10)) h113) call fun v_156 h157 =>
arb (.val v_156 h157) call fun v_158 h159 =>
cb v_158 (
lt (sqK (J_precentorref1_RightPred_3 P call fuel k) k) fun k202 =>
arb (.val (.int .i64 0) h159) call fun i_203 h204 =>
lt (blkK 1 k202) fun k205 =>
(loopN (L_precentorref1_RightPred_4 P call fuel) fuel (upd (upd (upd (upd (upd (upd (upd t 48 v_76) 47 v_78) 64 v_110) 63 v_112) 86 v_156) 85 v_158) 3 i_203) h204).bind (lpK k205)) (
k .normal (upd (upd (upd (upd (upd (upd t 48 v_76) 47 v_78) 64 v_110) 63 v_112) 86 v_156) 85 v_158) h159))))

def J_precentorref1_RightPred_0 (P : Program) (call : FuncId → List AVal → Heap → Res AVal) (fuel : Nat) (k : Kn (AVal)) (t : T) (h : Heap) : Res (AVal) :=
lt (sqK (J_precentorref1_RightPred_1 P call fuel k) k) fun k6 =>
arb (.of (fadR 1 (t 1)) h) call fun v_7 h8 =>
arb (.of (ld1 h8 v_7) h8) call fun v_9 h10 =>
lt (blkK 0 k6) fun k11 =>
arb (.of (aBin P .eql 3 (.tmp 9) (.const (.int .i64 1)) v_9 (.int .i64 1)) h10) call fun v_12 h13 =>
arb (.val v_12 h13) call fun v_14 h15 =>
cb v_14 (
arb (.of (fadR 2 (t 1)) h15) call fun v_16 h17 =>
arb (.of (ldn 5 h17 v_16) h17) call fun v_18 h19 =>
arb (.call F_precentorref1_zero [v_18] h19) call fun v_20 h21 =>
arb (.val v_20 h21) call fun v_22 h23 =>
gd (wantB v_22 true) (fun c => arb (.of (fadR 7 (t 1)) h23) call c) h23 fun v_24 h25 =>
gd (wantB v_22 true) (fun c => arb (.of (ldn 5 h25 v_24) h25) call c) h25 fun v_26 h27 =>
gd (wantB v_22 true) (fun c => arb (.call F_precentorref1_zero [v_26] h27) call c) h27 fun v_28 h29 =>
arb (pkR v_22 v_28 (.bool false) h29) call fun v_30 h31 =>
arb (.val v_30 h31) call fun v_32 h33 =>
gd (wantB v_32 true) (fun c => arb (.of (fadR 12 (t 1)) h33) call c) h33 fun v_34 h35 =>
gd (wantB v_32 true) (fun c => arb (.of (ld1 h35 v_34) h35) call c) h35 fun v_36 h37 =>
gd (wantB v_32 true) (fun c => arb (.of (lenL v_36) h37) call c) h37 fun v_38 h39 =>
gd (wantB v_32 true) (fun c => arb (.of (aBin P .eql 3 (.tmp 23) (.const (.int .i64 0)) v_38 (.int .i64 0)) h39) call c) h39 fun v_40 h41 =>
arb (pkR v_32 v_40 (.bool false) h41) call fun v_42 h43 =>
arb (.val v_42 h43) call fun v_44 h45 =>
k11 .ret (upd (upd (upd (upd (upd (upd (upd (upd (upd (upd (upd (upd (upd (upd (upd (upd (upd (upd (upd t 8 v_7) 9 v_9) 11 v_12) 10 v_14) 12 v_16) 13 v_18) 14 v_20) 15 v_22) 16 v_24) 17 v_26) 18 v_28) 19 v_30) 20 v_32) 21 v_34) 22 v_36) 23 v_38) 24 v_40) 25 v_42) 2 v_44) h45) (
lt (sqK (J_precentorref1_RightPred_2 P call fuel k11) k11) fun k241 =>
arb (.of (aBin P .eql 3 (.tmp 9) (.const (.int .i64 2)) v_9 (.int .i64 2)) h15) call fun v_242 h243 =>
arb (.val v_242 h243) call fun v_244 h245 =>
cb v_244 (
k241 .normal (upd (upd (upd (upd (upd (upd t 8 v_7) 9 v_9) 11 v_12) 10 v_14) 27 v_242) 26 v_244) h245) (
arb (.of (aBin P .eql 3 (.tmp 9) (.const (.int .i64 3)) v_9 (.int .i64 3)) h245) call fun v_246 h247 =>
arb (.val v_246 h247) call fun v_248 h249 =>
cb v_248 (
k241 .normal (upd (upd (upd (upd (upd (upd (upd (upd t 8 v_7) 9 v_9) 11 v_12) 10 v_14) 27 v_242) 26 v_244) 28 v_246) 26 v_248) h249) (
arb (.of (aBin P .eql 3 (.tmp 9) (.const (.int .i64 4)) v_9 (.int .i64 4)) h249) call fun v_250 h251 =>
arb (.val v_250 h251) call fun v_252 h253 =>
cb v_252 (
k241 .normal (upd (upd (upd (upd (upd (upd (upd (upd (upd (upd t 8 v_7) 9 v_9) 11 v_12) 10 v_14) 27 v_242) 26 v_244) 28 v_246) 26 v_248) 29 v_250) 26 v_252) h253) (
arb (.of (aBin P .eql 3 (.tmp 9) (.const (.int .i64 5)) v_9 (.int .i64 5)) h253) call fun v_254 h255 =>
arb (.val v_254 h255) call fun v_256 h257 =>
cb v_256 (
k241 .normal (upd (upd (upd (upd (upd (upd (upd (upd (upd (upd (upd (upd t 8 v_7) 9 v_9) 11 v_12) 10 v_14) 27 v_242) 26 v_244) 28 v_246) 26 v_248) 29 v_250) 26 v_252) 30 v_254) 26 v_256) h257) (
arb (.of (aBin P .eql 3 (.tmp 9) (.const (.int .i64 6)) v_9 (.int .i64 6)) h257) call fun v_258 h259 =>
arb (.val v_258 h259) call fun v_260 h261 =>
cb v_260 (
k241 .normal (upd (upd (upd (upd (upd (upd (upd (upd (upd (upd (upd (upd (upd (upd t 8 v_7) 9 v_9) 11 v_12) 10 v_14) 27 v_242) 26 v_244) 28 v_246) 26 v_248) 29 v_250) 26 v_252) 30 v_254) 26 v_256) 31 v_258) 26 v_260) h261) (
arb (.of (aBin P .eql 3 (.tmp 9) (.const (.int .i64 7)) v_9 (.int .i64 7)) h261) call fun v_262 h263 =>
arb (.val v_262 h263) call fun v_264 h265 =>
k241 .normal (upd (upd (upd (upd (upd (upd (upd (upd (upd (upd (upd (upd (upd (upd (upd (upd t 8 v_7) 9 v_9) 11 v_12) 10 v_14) 27 v_242) 26 v_244) 28 v_246) 26 v_248) 29 v_250) 26 v_252) 30 v_254) 26 v_256) 31 v_258) 26 v_260) 32 v_262) 26 v_264) h265))))))

def S_precentorref1_RightPred (P : Program) (call : FuncId → List AVal → Heap → Res AVal) (fuel : Nat) (p_a0 : AVal) (h : Heap) : Res AVal :=
lt (retK P [.tmp 2]) fun k =>
arb (boxR p_a0 h) call fun p_0 h1 =>
arb (.val (.bool false) h1) call fun v_2 h3 =>
lt (sqK (J_precentorref1_RightPred_0 P call fuel k) k) fun k266 =>
arb (.of (fadR 0 p_0) h3) call fun v_267 h268 =>
arb (.of (ld1 h268 v_267) h268) call fun v_269 h270 =>
arb (.call F_precentorref1_Word [v_269] h270) call fun v_271 h272 =>
arb (.of (aUn P .not v_271) h272) call fun v_273 h274 =>
cb v_273 (
arb (.val (.bool false) h274) call fun v_275 h276 =>
k266 .ret (upd (upd (upd (upd (upd (upd (upd (enterT [p_a0]) 1 p_0) 2 v_2) 4 v_267) 5 v_269) 6 v_271) 7 v_273) 2 v_275) h276) (
k266 .normal (upd (upd (upd (upd (upd (upd (enterT [p_a0]) 1 p_0) 2 v_2) 4 v_267) 5 v_269) 6 v_271) 7 v_273) h274)
theorem E_precentorref1_RightPred (call : FuncId → List AVal → Heap → Res AVal) (fuel : Nat) (p_a0 : AVal) (h : Heap) : bodyR Try.prog call fuel Try.f50 [p_a0] h = S_precentorref1_RightPred Try.prog call fuel p_a0 h := by kernel_rfl
theorem R_precentorref1_RightPred {X : XTab} (p_a0 : AVal) {h : Heap} {Q : AVal → Heap → Prop} (hx : X F_precentorref1_RightPred [p_a0] = none) (q : Tells (fun m => S_precentorref1_RightPred Try.prog (acallX Try.prog X m) m p_a0 h) Q) :
    Tells (fun m => acallX Try.prog X m F_precentorref1_RightPred [p_a0] h) Q :=
  Tells.later (q.le fun m => (E_precentorref1_RightPred (acallX Try.prog X m) m p_a0 h) ▸ acallX_le Try.func50 hx m h)

/-! ### precentor/precentorref1.SameFilter -/
def J_precentorref1_SameFilter_1 (P : Program) (call : FuncId → List AVal → Heap → Res AVal) (fuel : Nat) (k : Kn (AVal)) (t : T) (h : Heap) : Res (AVal) :=
arb (.val (.bool true) h) call fun v_2 h3 =>
k .ret (upd t 4 v_2) h3

def J_precentorref1_SameFilter_4 (P : Program) (call : FuncId → List AVal → Heap → Res AVal) (fuel : Nat) (k : Kn (Ex × T)) (t : T) (h : Heap) : Res (Ex × T) :=
arb (.val (t 5) h) call fun v_8 h9 =>
arb (.of (aBin P .add 3 (.tmp 15) (.const (.int .i64 1)) v_8 (.int .i64 1)) h9) call fun v_10 h11 =>
arb (.val v_10 h11) call fun i_12 h13 =>
k .normal (upd (upd (upd t 15 v_8) 16 v_10) 5 i_12) h13

def J_precentorref1_SameFilter_3 (P : Program) (call : FuncId → List AVal → Heap → Res AVal) (fuel : Nat) (k : Kn (Ex × T)) (t : T) (h : Heap) : Res (Ex × T) :=
lt (sqK (J_precentorref1_SameFilter_4 P call fuel k) k) fun k14 =>
lt (blkK 1 k14) fun k15 =>
obv (.val (t 0) h) fun v_16 =>
obv (.val (t 5) h) fun v_18 =>
obv (.of (ixsR 13 v_16 v_18) h) fun v_20 =>
obv (.of (ldn 13 h v_20) h) fun v_22 => ifb true <|
obv (.val (t 1) h) fun v_24 =>
obv (.val (t 5) h) fun v_26 =>
obv (.of (ixsR 13 v_24 v_26) h) fun v_28 =>
obv (.of (ldn 13 h v_28) h) fun v_30 => ifb true <|
arbE (.call F_precentorref1_SamePred [v_22, v_30] h) call fun v_32 h33 => lt h33 fun g33 => ifb (true && true) <|
obv (.of (aUn P .not v_32) g33) fun v_34 =>
cb v_34 (
arb (.val (.bool false) g33) call fun v_36 h37 =>
k15 .ret (upd (upd (upd (upd (upd (upd (upd (upd (upd (upd (upd t 17 v_16) 18 v_18) 19 v_20) 20 v_22) 21 v_24) 22 v_26) 23 v_28) 24 v_30) 25 v_32) 26 v_34) 4 v_36) h37) (
k15 .normal (upd (upd (upd (upd (upd (upd (upd (upd (upd (upd t 17 v_16) 18 v_18) 19 v_20) 20 v_22) 21 v_24) 22 v_26) 23 v_28) 24 v_30) 25 v_32) 26 v_34) g33)

def L_precentorref1_SameFilter_2 (P : Program) (call : FuncId → List AVal → Heap → Res AVal) (fuel : Nat) (t : T) (h : Heap) : Res (Ex × T) :=
lt okK fun k =>
lt (sqK (J_precentorref1_SameFilter_3 P call fuel k) k) fun k38 =>
arb (.val (t 5) h) call fun v_39 h40 =>
arb (.val (t 0) h40) call fun v_41 h42 =>
arb (.of (lenL v_41) h42) call fun v_43 h44 =>
arb (.of (aBin P .lss 3 (.tmp 11) (.tmp 13) v_39 v_43) h44) call fun v_45 h46 =>
cb v_45 (
k38 .normal (upd (upd (upd (upd t 11 v_39) 12 v_41) 13 v_43) 14 v_45) h46) (
k38 (.exit 0) (upd (upd (upd (upd t 11 v_39) 12 v_41) 13 v_43) 14 v_45) h46)

def J_precentorref1_SameFilter_0 (P : Program) (call : FuncId → List AVal → Heap → Res AVal) (fuel : Nat) (k : Kn (AVal)) (t : T) (h : Heap) : Res (AVal) :=
lt (sqK (J_precentorref1_SameFilter_1 P call fuel k) k) fun k4 =>
arb (.val (.int .i64 0) h) call fun i_5 h6 =>
lt (blkK 0 k4) fun k7 =>
(loopN (L_precentorref1_SameFilter_2 P call fuel) fuel (upd t 5 i_5) h6).bind (lpK k7)

def S_precentorref1_SameFilter (P : Program) (call : FuncId → List AVal → Heap → Res AVal) (fuel : Nat) (f_a0 g_a1 : AVal) (h : Heap) : Res AVal :=
lt (retK P [.tmp 4]) fun k =>
arb (.val (.bool false) h) call fun v_0 h1 =>
lt (sqK (J_precentorref1_SameFilter_0 P call fuel k) k) fun k47 =>
arb (.val f_a0 h1) call fun v_48 h49 =>
arb (.of (lenL v_48) h49) call fun v_50 h51 =>
arb (.val g_a1 h51) call fun v_52 h53 =>
arb (.of (lenL v_52) h53) call fun v_54 h55 =>
arb (.of (aBin P .neq 3 (.tmp 7) (.tmp 9) v_50 v_54) h55) call fun v_56 h57 =>
cb v_56 (
arb (.val (.bool false) h57) call fun v_58 h59 =>
k47 .ret (upd (upd (upd (upd (upd (upd (upd (enterT [f_a0, g_a1]) 4 v_0) 6 v_48) 7 v_50) 8 v_52) 9 v_54) 10 v_56) 4 v_58) h59) (
k47 .normal (upd (upd (upd (upd (upd (upd (enterT [f_a0, g_a1]) 4 v_0) 6 v_48) 7 v_50) 8 v_52) 9 v_54) 10 v_56) h57)
theorem E_precentorref1_SameFilter (call : FuncId → List AVal → Heap → Res AVal) (fuel : Nat) (f_a0 g_a1 : AVal) (h : Heap) : bodyR Try.prog call fuel Try.f51 [f_a0, g_a1] h = S_precentorref1_SameFilter Try.prog call fuel f_a0 g_a1 h := by kernel_rfl
theorem R_precentorref1_SameFilter {X : XTab} (f_a0 g_a1 : AVal) {h : Heap} {Q : AVal → Heap → Prop} (hx : X F_precentorref1_SameFilter [f_a0, g_a1] = none) (q : Tells (fun m => S_precentorref1_SameFilter Try.prog (acallX Try.prog X m) m f_a0 g_a1 h) Q) :
    Tells (fun m => acallX Try.prog X m F_precentorref1_SameFilter [f_a0, g_a1] h) Q :=
  Tells.later (q.le fun m => (E_precentorref1_SameFilter (acallX Try.prog X m) m f_a0 g_a1 h) ▸ acallX_le Try.func51 hx m h)

/-! ### precentor/precentorref1.SameValue -/

def S_precentorref1_SameValue (P : Program) (call : FuncId → List AVal → Heap → Res AVal) (fuel : Nat) (a_a0 b_a1 : AVal) (h : Heap) : Res AVal :=
lt (retK P [.tmp 4]) fun k =>
arb (boxR a_a0 h) call fun a_0 h1 =>
arb (boxR b_a1 h1) call fun b_2 h3 =>
arb (.val (.bool false) h3) call fun v_4 h5 =>
obv (.of (fadR 0 a_0) h5) fun v_6 =>
obv (.of (ld1 h5 v_6) h5) fun v_8 => ifb true <|
obv (.of (fadR 0 b_2) h5) fun v_10 =>
obv (.of (ld1 h5 v_10) h5) fun v_12 => ifb true <|
obv (.of (aBin P .eql 3 (.tmp 6) (.tmp 8) v_8 v_12) h5) fun v_14 =>
obv (.val v_14 h5) fun v_16 =>
gdr (wantB v_16 true) (fun c => obv (.of (fadR 1 a_0) h5) fun v_18 =>
c true v_18 h5) h5 fun w20 v_18 h20 =>
gdr (wantB v_16 true) (fun c => obv (.of (ld1 h20 v_18) h20) fun v_21 => ifb true <|
c true v_21 h20) h20 fun w23 v_21 h23 =>
gdr (wantB v_16 true) (fun c => obv (.of (fadR 1 b_2) h23) fun v_24 =>
c true v_24 h23) h23 fun w26 v_24 h26 =>
gdr (wantB v_16 true) (fun c => obv (.of (ld1 h26 v_24) h26) fun v_27 => ifb true <|
c true v_27 h26) h26 fun w29 v_27 h29 =>
gdr (wantB v_16 true) (fun c => obv (.of (aBin P .eql 2 (.tmp 12) (.tmp 14) v_21 v_27) h29) fun v_30 =>
c true v_30 h29) h29 fun w32 v_30 h32 =>
obv (pkR v_16 v_30 (.bool false) h32) fun v_33 =>
obv (.val v_33 h32) fun v_35 =>
gdr (wantB v_35 true) (fun c => obv (.of (fadR 2 a_0) h32) fun v_37 =>
c true v_37 h32) h32 fun w39 v_37 h39 =>
gdr (wantB v_35 true) (fun c => obv (.of (ld1 h39 v_37) h39) fun v_40 => ifb true <|
c true v_40 h39) h39 fun w42 v_40 h42 =>
gdr (wantB v_35 true) (fun c => arbE (.call F_precentorref1_Bits [v_40] h42) call fun v_43 h44 => lt h44 fun g44 => ifb (true && true) <|
c true v_43 g44) h42 fun w45 v_43 h45 =>
gdr (wantB v_35 true) (fun c => obv (.of (fadR 2 b_2) h45) fun v_46 =>
c true v_46 h45) h45 fun w48 v_46 h48 =>
gdr (wantB v_35 true) (fun c => obv (.of (ld1 h48 v_46) h48) fun v_49 => ifb ((!w45 || isV v_49 (arVal (.of (ld1 h42 v_46) h42))) && true) <|
c true v_49 h48) h48 fun w51 v_49 h51 =>
gdr (wantB v_35 true) (fun c => arbE (.call F_precentorref1_Bits [v_49] h51) call fun v_52 h53 => lt h53 fun g53 => ifb (true && true) <|
c true v_52 g53) h51 fun w54 v_52 h54 =>
gdr (wantB v_35 true) (fun c => obv (.of (aBin P .eql 111 (.tmp 20) (.tmp 23) v_43 v_52) h54) fun v_55 =>
c true v_55 h54) h54 fun w57 v_55 h57 =>
obv (pkR v_35 v_55 (.bool false) h57) fun v_58 =>
obv (.val v_58 h57) fun v_60 =>
gdr (wantB v_60 true) (fun c => obv (.of (fadR 3 a_0) h57) fun v_62 =>
c true v_62 h57) h57 fun w64 v_62 h64 =>
gdr (wantB v_60 true) (fun c => obv (.of (ld1 h64 v_62) h64) fun v_65 => ifb true <|
c true v_65 h64) h64 fun w67 v_65 h67 =>
gdr (wantB v_60 true) (fun c => obv (.of (fadR 3 b_2) h67) fun v_68 =>
c true v_68 h67) h67 fun w70 v_68 h70 =>
gdr (wantB v_60 true) (fun c => obv (.of (ld1 h70 v_68) h70) fun v_71 => ifb true <|
c true v_71 h70) h70 fun w73 v_71 h73 =>
gdr (wantB v_60 true) (fun c => obv (.of (aBin P .eql 9 (.tmp 28) (.tmp 30) v_65 v_71) h73) fun v_74 =>
c true v_74 h73) h73 fun w76 v_74 h76 =>
obv (pkR v_60 v_74 (.bool false) h76) fun v_77 =>
obv (.val v_77 h76) fun v_79 =>
gdr (wantB v_79 true) (fun c => obv (.of (fadR 4 a_0) h76) fun v_81 =>
c true v_81 h76) h76 fun w83 v_81 h83 =>
gdr (wantB v_79 true) (fun c => obv (.of (ld1 h83 v_81) h83) fun v_84 => ifb true <|
c true v_84 h83) h83 fun w86 v_84 h86 =>
gdr (wantB v_79 true) (fun c => obv (.of (fadR 4 b_2) h86) fun v_87 =>
c true v_87 h86) h86 fun w89 v_87 h89 =>
gdr (wantB v_79 true) (fun c => obv (.of (ld1 h89 v_87) h89) fun v_90 => ifb true <|
c true v_90 h89) h89 fun w92 v_90 h92 =>
gdr (wantB v_79 true) (fun c => obv (.of (aBin P .eql 4 (.tmp 35) (.tmp 37) v_84 v_90) h92) fun v_93 =>
c true v_93 h92) h92 fun w95 v_93 h95 =>
obv (pkR v_79 v_93 (.bool false) h95) fun v_96 =>
obv (.val v_96 h95) fun v_98 =>
k .ret (upd (upd (upd (upd (upd (upd (upd (upd (upd (upd (upd (upd (upd (upd (upd (upd (upd (upd (upd (upd (upd (upd (upd (upd (upd (upd (upd (upd (upd (upd (upd (upd (upd (upd (upd (upd (upd (upd (upd (enterT [a_a0, b_a1]) 2 a_0) 3 b_2) 4 v_4) 5 v_6) 6 v_8) 7 v_10) 8 v_12) 9 v_14) 10 v_16) 11 v_18) 12 v_21) 13 v_24) 14 v_27) 15 v_30) 16 v_33) 17 v_35) 18 v_37) 19 v_40) 20 v_43) 21 v_46) 22 v_49) 23 v_52) 24 v_55) 25 v_58) 26 v_60) 27 v_62) 28 v_65) 29 v_68) 30 v_71) 31 v_74) 32 v_77) 33 v_79) 34 v_81) 35 v_84) 36 v_87) 37 v_90) 38 v_93) 39 v_96) 4 v_98) h95
theorem E_precentorref1_SameValue (call : FuncId → List AVal → Heap → Res AVal) (fuel : Nat) (a_a0 b_a1 : AVal) (h : Heap) : bodyR Try.prog call fuel Try.f53 [a_a0, b_a1] h = S_precentorref1_SameValue Try.prog call fuel a_a0 b_a1 h := by kernel_rfl
theorem R_precentorref1_SameValue {X : XTab} (a_a0 b_a1 : AVal) {h : Heap} {Q : AVal → Heap → Prop} (hx : X F_precentorref1_SameValue [a_a0, b_a1] = none) (q : Tells (fun m => S_precentorref1_SameValue Try.prog (acallX Try.prog X m) m a_a0 b_a1 h) Q) :
    Tells (fun m => acallX Try.prog X m F_precentorref1_SameValue [a_a0, b_a1] h) Q :=
  Tells.later (q.le fun m => (E_precentorref1_SameValue (acallX Try.prog X m) m a_a0 b_a1 h) ▸ acallX_le Try.func53 hx m h)

/-! ### precentor/precentorref1.Word -/
def J_precentorref1_Word_0 (P : Program) (call : FuncId → List AVal → Heap → Res AVal) (fuel : Nat) (k : Kn (AVal)) (t : T) (h : Heap) : Res (AVal) :=
arb (.val (t 0) h) call fun v_2 h3 =>
arb (.of (lenS v_2) h3) call fun v_4 h5 =>
arb (.of (aBin P .geq 3 (.tmp 21) (.const (.int .i64 1)) v_4 (.int .i64 1)) h5) call fun v_6 h7 =>
arb (.val v_6 h7) call fun v_8 h9 =>
gd (wantB v_8 true) (fun c => arb (.val (t 0) h9) call c) h9 fun v_10 h11 =>
gd (wantB v_8 true) (fun c => arb (.of (lenS v_10) h11) call c) h11 fun v_12 h13 =>
gd (wantB v_8 true) (fun c => arb (.of (aBin P .leq 3 (.tmp 25) (.const (.int .i64 6)) v_12 (.int .i64 6)) h13) call c) h13 fun v_14 h15 =>
arb (pkR v_8 v_14 (.bool false) h15) call fun v_16 h17 =>
arb (.val v_16 h17) call fun v_18 h19 =>
k .ret (upd (upd (upd (upd (upd (upd (upd (upd (upd t 20 v_2) 21 v_4) 22 v_6) 23 v_8) 24 v_10) 25 v_12) 26 v_14) 27 v_16) 2 v_18) h19

def J_precentorref1_Word_3 (P : Program) (call : FuncId → List AVal → Heap → Res AVal) (fuel : Nat) (k : Kn (Ex × T)) (t : T) (h : Heap) : Res (Ex × T) :=
arb (.val (t 3) h) call fun v_24 h25 =>
arb (.of (aBin P .add 3 (.tmp 8) (.const (.int .i64 1)) v_24 (.int .i64 1)) h25) call fun v_26 h27 =>
arb (.val v_26 h27) call fun i_28 h29 =>
k .normal (upd (upd (upd t 8 v_24) 9 v_26) 3 i_28) h29

def J_precentorref1_Word_2 (P : Program) (call : FuncId → List AVal → Heap → Res AVal) (fuel : Nat) (k : Kn (Ex × T)) (t : T) (h : Heap) : Res (Ex × T) :=
lt (sqK (J_precentorref1_Word_3 P call fuel k) k) fun k30 =>
lt (blkK 1 k30) fun k31 =>
arb (.val (t 0) h) call fun v_32 h33 =>
arb (.val (t 3) h33) call fun v_34 h35 =>
arb (.of (ixtR v_32 v_34) h35) call fun v_36 h37 =>
arb (.of (aBin P .lss 5 (.tmp 12) (.const (.int .u8 97)) v_36 (.int .u8 97)) h37) call fun v_38 h39 =>
arb (.val v_38 h39) call fun v_40 h41 =>
gd (wantB v_40 false) (fun c => arb (.val (t 0) h41) call c) h41 fun v_42 h43 =>
gd (wantB v_40 false) (fun c => arb (.val (t 3) h43) call c) h43 fun v_44 h45 =>
gd (wantB v_40 false) (fun c => arb (.of (ixtR v_42 v_44) h45) call c) h45 fun v_46 h47 =>
gd (wantB v_40 false) (fun c => arb (.of (aBin P .gtr 5 (.tmp 17) (.const (.int .u8 122)) v_46 (.int .u8 122)) h47) call c) h47 fun v_48 h49 =>
arb (pkR v_40 (.bool true) v_48 h49) call fun v_50 h51 =>
cb v_50 (
arb (.val (.bool false) h51) call fun v_52 h53 =>
k31 .ret (upd (upd (upd (upd (upd (upd (upd (upd (upd (upd (upd t 10 v_32) 11 v_34) 12 v_36) 13 v_38) 14 v_40) 15 v_42) 16 v_44) 17 v_46) 18 v_48) 19 v_50) 2 v_52) h53) (
k31 .normal (upd (upd (upd (upd (upd (upd (upd (upd (upd (upd t 10 v_32) 11 v_34) 12 v_36) 13 v_38) 14 v_40) 15 v_42) 16 v_44) 17 v_46) 18 v_48) 19 v_50) h51)

def L_precentorref1_Word_1 (P : Program) (call : FuncId → List AVal → Heap → Res AVal) (fuel : Nat) (t : T) (h : Heap) : Res (Ex × T) :=
lt okK fun k =>
lt (sqK (J_precentorref1_Word_2 P call fuel k) k) fun k54 =>
arb (.val (t 3) h) call fun v_55 h56 =>
arb (.val (t 0) h56) call fun v_57 h58 =>
arb (.of (lenS v_57) h58) call fun v_59 h60 =>
arb (.of (aBin P .lss 3 (.tmp 4) (.tmp 6) v_55 v_59) h60) call fun v_61 h62 =>
cb v_61 (
k54 .normal (upd (upd (upd (upd t 4 v_55) 5 v_57) 6 v_59) 7 v_61) h62) (
k54 (.exit 0) (upd (upd (upd (upd t 4 v_55) 5 v_57) 6 v_59) 7 v_61) h62)

def S_precentorref1_Word (P : Program) (call : FuncId → List AVal → Heap → Res AVal) (fuel : Nat) (s_a0 : AVal) (h : Heap) : Res AVal :=
lt (retK P [.tmp 2]) fun k =>
arb (.val (.bool false) h) call fun v_0 h1 =>
lt (sqK (J_precentorref1_Word_0 P call fuel k) k) fun k20 =>
arb (.val (.int .i64 0) h1) call fun i_21 h22 =>
lt (blkK 0 k20) fun k23 =>
(loopN (L_precentorref1_Word_1 P call fuel) fuel (upd (upd (enterT [s_a0]) 2 v_0) 3 i_21) h22).bind (lpK k23)
theorem E_precentorref1_Word (call : FuncId → List AVal → Heap → Res AVal) (fuel : Nat) (s_a0 : AVal) (h : Heap) : bodyR Try.prog call fuel Try.f58 [s_a0] h = S_precentorref1_Word Try.prog call fuel s_a0 h := by kernel_rfl
theorem R_precentorref1_Word {X : XTab} (s_a0 : AVal) {h : Heap} {Q : AVal → Heap → Prop} (hx : X F_precentorref1_Word [s_a0] = none) (q : Tells (fun m => S_precentorref1_Word Try.prog (acallX Try.prog X m) m s_a0 h) Q) :
    Tells (fun m => acallX Try.prog X m F_precentorref1_Word [s_a0] h) Q :=
  Tells.later (q.le fun m => (E_precentorref1_Word (acallX Try.prog X m) m s_a0 h) ▸ acallX_le Try.func58 hx m h)

/-! ### precentor/precentorref1.zero -/

def S_precentorref1_zero (P : Program) (call : FuncId → List AVal → Heap → Res AVal) (fuel : Nat) (v_a0 : AVal) (h : Heap) : Res AVal :=
lt (retK P [.tmp 2]) fun k =>
arb (boxR v_a0 h) call fun v_0 h1 =>
arb (.val (.bool false) h1) call fun v_2 h3 =>
arb (.of (ldn 5 h3 v_0) h3) call fun v_4 h5 =>
arb (.of (bldR [(.int .i64 0), (.int .i64 0), (.flt .f64 0), (.str (bs [])), (.bool false)] []) h5) call fun v_6 h7 =>
arb (.call F_precentorref1_SameValue [v_4, v_6] h7) call fun v_8 h9 =>
arb (.val v_8 h9) call fun v_10 h11 =>
k .ret (upd (upd (upd (upd (upd (upd (enterT [v_a0]) 1 v_0) 2 v_2) 3 v_4) 4 v_6) 5 v_8) 2 v_10) h11
theorem E_precentorref1_zero (call : FuncId → List AVal → Heap → Res AVal) (fuel : Nat) (v_a0 : AVal) (h : Heap) : bodyR Try.prog call fuel Try.f59 [v_a0] h = S_precentorref1_zero Try.prog call fuel v_a0 h := by kernel_rfl
theorem R_precentorref1_zero {X : XTab} (v_a0 : AVal) {h : Heap} {Q : AVal → Heap → Prop} (hx : X F_precentorref1_zero [v_a0] = none) (q : Tells (fun m => S_precentorref1_zero Try.prog (acallX Try.prog X m) m v_a0 h) Q) :
    Tells (fun m => acallX Try.prog X m F_precentorref1_zero [v_a0] h) Q :=
  Tells.later (q.le fun m => (E_precentorref1_zero (acallX Try.prog X m) m v_a0 h) ▸ acallX_le Try.func59 hx m h)

/-! ### precentor/precentorref1.RightValue -/
def J_precentorref1_RightValue_0 (P : Program) (call : FuncId → List AVal → Heap → Res AVal) (fuel : Nat) (k : Kn (AVal)) (t : T) (h : Heap) : Res (AVal) :=
arb (.val (.bool false) h) call fun v_20 h21 =>
k .ret (upd t 2 v_20) h21

def S_precentorref1_RightValue (P : Program) (call : FuncId → List AVal → Heap → Res AVal) (fuel : Nat) (v_a0 : AVal) (h : Heap) : Res AVal :=
lt (retK P [.tmp 2]) fun k =>
arb (boxR v_a0 h) call fun v_0 h1 =>
arb (.val (.bool false) h1) call fun v_2 h3 =>
obv (.of (fadR 1 v_0) h3) fun v_4 =>
obv (.of (ld1 h3 v_4) h3) fun v_5 =>
obv (.of (aBin P .eql 2 (.tmp 8) (.const (.int .i64 0)) v_5 (.int .i64 0)) h3) fun v_6 =>
obv (.of (fadR 2 v_0) h3) fun v_7 =>
obv (.of (ld1 h3 v_7) h3) fun v_8 =>
obv (.of (aBin P .eql 33 (.tmp 11) (.const (.float .f64 0)) v_8 (.flt .f64 0)) h3) fun v_9 =>
obv (.of (fadR 3 v_0) h3) fun v_10 =>
obv (.of (ld1 h3 v_10) h3) fun v_11 =>
obv (.of (aBin P .eql 9 (.tmp 14) (.const (.string (bs []))) v_11 (.str (bs []))) h3) fun v_12 =>
obv (.of (fadR 4 v_0) h3) fun v_13 =>
obv (.of (ld1 h3 v_13) h3) fun v_14 =>
obv (.of (aUn P .not v_14) h3) fun v_15 =>
obv (.val v_6 h3) fun n_16 =>
obv (.val v_9 h3) fun x_17 =>
obv (.val v_12 h3) fun s_18 =>
obv (.val v_15 h3) fun b_19 =>
lt (sqK (J_precentorref1_RightValue_0 P call fuel k) k) fun k22 =>
arb (.of (fadR 0 v_0) h3) call fun v_23 h24 =>
arb (.of (ld1 h24 v_23) h24) call fun v_25 h26 =>
lt (blkK 0 k22) fun k27 =>
arb (.of (aBin P .eql 3 (.tmp 20) (.const (.int .i64 1)) v_25 (.int .i64 1)) h26) call fun v_28 h29 =>
arb (.val v_28 h29) call fun v_30 h31 =>
cb v_30 (
arb (.val x_17 h31) call fun v_32 h33 =>
arb (.val v_32 h33) call fun v_34 h35 =>
gd (wantB v_34 true) (fun c => arb (.val s_18 h35) call c) h35 fun v_36 h37 =>
arb (pkR v_34 v_36 (.bool false) h37) call fun v_38 h39 =>
arb (.val v_38 h39) call fun v_40 h41 =>
gd (wantB v_40 true) (fun c => arb (.val b_19 h41) call c) h41 fun v_42 h43 =>
arb (pkR v_40 v_42 (.bool false) h43) call fun v_44 h45 =>
arb (.val v_44 h45) call fun v_46 h47 =>
k27 .ret (upd (upd (upd (upd (upd (upd (upd (upd (upd (upd (upd (upd (upd (upd (upd (upd (upd (upd (upd (upd (upd (upd (upd (upd (upd (upd (upd (upd (upd (upd (enterT [v_a0]) 1 v_0) 2 v_2) 7 v_4) 8 v_5) 9 v_6) 10 v_7) 11 v_8) 12 v_9) 13 v_10) 14 v_11) 15 v_12) 16 v_13) 17 v_14) 18 v_15) 3 n_16) 4 x_17) 5 s_18) 6 b_19) 19 v_23) 20 v_25) 22 v_28) 21 v_30) 23 v_32) 24 v_34) 25 v_36) 26 v_38) 27 v_40) 28 v_42) 29 v_44) 2 v_46) h47) (
arb (.of (aBin P .eql 3 (.tmp 20) (.const (.int .i64 2)) v_25 (.int .i64 2)) h31) call fun v_48 h49 =>
arb (.val v_48 h49) call fun v_50 h51 =>
cb v_50 (
arb (.val n_16 h51) call fun v_52 h53 =>
arb (.val v_52 h53) call fun v_54 h55 =>
gd (wantB v_54 true) (fun c => arb (.val s_18 h55) call c) h55 fun v_56 h57 =>
arb (pkR v_54 v_56 (.bool false) h57) call fun v_58 h59 =>
arb (.val v_58 h59) call fun v_60 h61 =>
gd (wantB v_60 true) (fun c => arb (.val b_19 h61) call c) h61 fun v_62 h63 =>
arb (pkR v_60 v_62 (.bool false) h63) call fun v_64 h65 =>
arb (.val v_64 h65) call fun v_66 h67 =>
k27 .ret (upd (upd (upd (upd (upd (upd (upd (upd (upd (upd (upd (upd (upd (upd (upd (upd (upd (upd (upd (upd (upd (upd (upd (upd (upd (upd (upd (upd (upd (upd (upd (upd (enterT [v_a0]) 1 v_0) 2 v_2) 7 v_4) 8 v_5) 9 v_6) 10 v_7) 11 v_8) 12 v_9) 13 v_10) 14 v_11) 15 v_12) 16 v_13) 17 v_14) 18 v_15) 3 n_16) 4 x_17) 5 s_18) 6 b_19) 19 v_23) 20 v_25) 22 v_28) 21 v_30) 31 v_48) 30 v_50) 32 v_52) 33 v_54) 34 v_56) 35 v_58) 36 v_60) 37 v_62) 38 v_64) 2 v_66) h67) (
arb (.of (aBin P .eql 3 (.tmp 20) (.const (.int .i64 3)) v_25 (.int .i64 3)) h51) call fun v_68 h69 =>
arb (.val v_68 h69) call fun v_70 h71 =>
cb v_70 (
arb (.val n_16 h71) call fun v_72 h73 =>
arb (.val v_72 h73) call fun v_74 h75 =>
gd (wantB v_74 true) (fun c => arb (.val x_17 h75) call c) h75 fun v_76 h77 =>
arb (pkR v_74 v_76 (.bool false) h77) call fun v_78 h79 =>
arb (.val v_78 h79) call fun v_80 h81 =>
gd (wantB v_80 true) (fun c => arb (.val b_19 h81) call c) h81 fun v_82 h83 =>
arb (pkR v_80 v_82 (.bool false) h83) call fun v_84 h85 =>
arb (.val v_84 h85) call fun v_86 h87 =>
gd (wantB v_86 true) (fun c => arb (.of (fadR 3 v_0) h87) call c) h87 fun v_88 h89 =>
gd (wantB v_86 true) (fun c => arb (.of (ld1 h89 v_88) h89) call c) h89 fun v_90 h91 =>
gd (wantB v_86 true) (fun c => arb (.of (lenS v_90) h91) call c) h91 fun v_92 h93 =>
gd (wantB v_86 true) (fun c => arb (.of (aBin P .leq 3 (.tmp 51) (.const (.int .i64 12)) v_92 (.int .i64 12)) h93) call c) h93 fun v_94 h95 =>
arb (pkR v_86 v_94 (.bool false) h95) call fun v_96 h97 =>
arb (.val v_96 h97) call fun v_98 h99 =>
k27 .ret (upd (upd (upd (upd (upd (upd (upd (upd (upd (upd (upd (upd (upd (upd (upd (upd (upd (upd (upd (upd (upd (upd (upd (upd (upd (upd (upd (upd (upd (upd (upd (upd (upd (upd (upd (upd (upd (upd (upd (upd (enterT [v_a0]) 1 v_0) 2 v_2) 7 v_4) 8 v_5) 9 v_6) 10 v_7) 11 v_8) 12 v_9) 13 v_10) 14 v_11) 15 v_12) 16 v_13) 17 v_14) 18 v_15) 3 n_16) 4 x_17) 5 s_18) 6 b_19) 19 v_23) 20 v_25) 22 v_28) 21 v_30) 31 v_48) 30 v_50) 40 v_68) 39 v_70) 41 v_72) 42 v_74) 43 v_76) 44 v_78) 45 v_80) 46 v_82) 47 v_84) 48 v_86) 49 v_88) 50 v_90) 51 v_92) 52 v_94) 53 v_96) 2 v_98) h99) (
arb (.of (aBin P .eql 3 (.tmp 20) (.const (.int .i64 4)) v_25 (.int .i64 4)) h71) call fun v_100 h101 =>
arb (.val v_100 h101) call fun v_102 h103 =>
cb v_102 (
arb (.val n_16 h103) call fun v_104 h105 =>
arb (.val v_104 h105) call fun v_106 h107 =>
gd (wantB v_106 true) (fun c => arb (.val x_17 h107) call c) h107 fun v_108 h109 =>
arb (pkR v_106 v_108 (.bool false) h109) call fun v_110 h111 =>
arb (.val v_110 h111) call fun v_112 h113 =>
gd (wantB v_112 true) (fun c => arb (.val s_18 h113) call c) h113 fun v_114 h115 =>
arb (pkR v_112 v_114 (.bool false) h115) call fun v_116 h117 =>
arb (.val v_116 h117) call fun v_118 h119 =>
k27 .ret (upd (upd (upd (upd (upd (upd (upd (upd (upd (upd (upd (upd (upd (upd (upd (upd (upd (upd (upd (upd (upd (upd (upd (upd (upd (upd (upd (upd (upd (upd (upd (upd (upd (upd (upd (upd (enterT [v_a0]) 1 v_0) 2 v_2) 7 v_4) 8 v_5) 9 v_6) 10 v_7) 11 v_8) 12 v_9) 13 v_10) 14 v_11) 15 v_12) 16 v_13) 17 v_14) 18 v_15) 3 n_16) 4 x_17) 5 s_18) 6 b_19) 19 v_23) 20 v_25) 22 v_28) 21 v_30) 31 v_48) 30 v_50) 40 v_68) 39 v_70) 55 v_100) 54 v_102) 56 v_104) 57 v_106) 58 v_108) 59 v_110) 60 v_112) 61 v_114) 62 v_116) 2 v_118) h119) (
k27 .normal (upd (upd (upd (upd (upd (upd (upd (upd (upd (upd (upd (upd (upd (upd (upd (upd (upd (upd (upd (upd (upd (upd (upd (upd (upd (upd (upd (upd (enterT [v_a0]) 1 v_0) 2 v_2) 7 v_4) 8 v_5) 9 v_6) 10 v_7) 11 v_8) 12 v_9) 13 v_10) 14 v_11) 15 v_12) 16 v_13) 17 v_14) 18 v_15) 3 n_16) 4 x_17) 5 s_18) 6 b_19) 19 v_23) 20 v_25) 22 v_28) 21 v_30) 31 v_48) 30 v_50) 40 v_68) 39 v_70) 55 v_100) 54 v_102) h103))))
theorem E_precentorref1_RightValue (call : FuncId → List AVal → Heap → Res AVal) (fuel : Nat) (v_a0 : AVal) (h : Heap) : bodyR Try.prog call fuel Try.f60 [v_a0] h = S_precentorref1_RightValue Try.prog call fuel v_a0 h := by kernel_rfl
theorem R_precentorref1_RightValue {X : XTab} (v_a0 : AVal) {h : Heap} {Q : AVal → Heap → Prop} (hx : X F_precentorref1_RightValue [v_a0] = none) (q : Tells (fun m => S_precentorref1_RightValue Try.prog (acallX Try.prog X m) m v_a0 h) Q) :
    Tells (fun m => acallX Try.prog X m F_precentorref1_RightValue [v_a0] h) Q :=
  Tells.later (q.le fun m => (E_precentorref1_RightValue (acallX Try.prog X m) m v_a0 h) ▸ acallX_le Try.func60 hx m h)

/-! ### precentor/precentorref1.SamePred -/

def S_precentorref1_SamePred (P : Program) (call : FuncId → List AVal → Heap → Res AVal) (fuel : Nat) (a_a0 b_a1 : AVal) (h : Heap) : Res AVal :=
lt (retK P [.tmp 4]) fun k =>
arb (boxR a_a0 h) call fun a_0 h1 =>
arb (boxR b_a1 h1) call fun b_2 h3 =>
arb (.val (.bool false) h3) call fun v_4 h5 =>
arb (.of (fadR 0 a_0) h5) call fun v_6 h7 =>
arb (.of (ld1 h7 v_6) h7) call fun v_8 h9 =>
arb (.of (fadR 0 b_2) h9) call fun v_10 h11 =>
arb (.of (ld1 h11 v_10) h11) call fun v_12 h13 =>
arb (.of (aBin P .eql 9 (.tmp 6) (.tmp 8) v_8 v_12) h13) call fun v_14 h15 =>
arb (.val v_14 h15) call fun v_16 h17 =>
gd (wantB v_16 true) (fun c => arb (.of (fadR 1 a_0) h17) call c) h17 fun v_18 h19 =>
gd (wantB v_16 true) (fun c => arb (.of (ld1 h19 v_18) h19) call c) h19 fun v_20 h21 =>
gd (wantB v_16 true) (fun c => arb (.of (fadR 1 b_2) h21) call c) h21 fun v_22 h23 =>
gd (wantB v_16 true) (fun c => arb (.of (ld1 h23 v_22) h23) call c) h23 fun v_24 h25 =>
gd (wantB v_16 true) (fun c => arb (.of (aBin P .eql 3 (.tmp 12) (.tmp 14) v_20 v_24) h25) call c) h25 fun v_26 h27 =>
arb (pkR v_16 v_26 (.bool false) h27) call fun v_28 h29 =>
arb (.val v_28 h29) call fun v_30 h31 =>
gd (wantB v_30 true) (fun c => arb (.of (fadR 2 a_0) h31) call c) h31 fun v_32 h33 =>
gd (wantB v_30 true) (fun c => arb (.of (ldn 5 h33 v_32) h33) call c) h33 fun v_34 h35 =>
gd (wantB v_30 true) (fun c => arb (.of (fadR 2 b_2) h35) call c) h35 fun v_36 h37 =>
gd (wantB v_30 true) (fun c => arb (.of (ldn 5 h37 v_36) h37) call c) h37 fun v_38 h39 =>
gd (wantB v_30 true) (fun c => arb (.call F_precentorref1_SameValue [v_34, v_38] h39) call c) h39 fun v_40 h41 =>
arb (pkR v_30 v_40 (.bool false) h41) call fun v_42 h43 =>
arb (.val v_42 h43) call fun v_44 h45 =>
gd (wantB v_44 true) (fun c => arb (.of (fadR 7 a_0) h45) call c) h45 fun v_46 h47 =>
gd (wantB v_44 true) (fun c => arb (.of (ldn 5 h47 v_46) h47) call c) h47 fun v_48 h49 =>
gd (wantB v_44 true) (fun c => arb (.of (fadR 7 b_2) h49) call c) h49 fun v_50 h51 =>
gd (wantB v_44 true) (fun c => arb (.of (ldn 5 h51 v_50) h51) call c) h51 fun v_52 h53 =>
gd (wantB v_44 true) (fun c => arb (.call F_precentorref1_SameValue [v_48, v_52] h53) call c) h53 fun v_54 h55 =>
arb (pkR v_44 v_54 (.bool false) h55) call fun v_56 h57 =>
arb (.val v_56 h57) call fun v_58 h59 =>
gd (wantB v_58 true) (fun c => arb (.of (fadR 12 a_0) h59) call c) h59 fun v_60 h61 =>
gd (wantB v_58 true) (fun c => arb (.of (ld1 h61 v_60) h61) call c) h61 fun v_62 h63 =>
gd (wantB v_58 true) (fun c => arb (.of (fadR 12 b_2) h63) call c) h63 fun v_64 h65 =>
gd (wantB v_58 true) (fun c => arb (.of (ld1 h65 v_64) h65) call c) h65 fun v_66 h67 =>
gd (wantB v_58 true) (fun c => arb (.call F_precentorref1_sameValues [v_62, v_66] h67) call c) h67 fun v_68 h69 =>
arb (pkR v_58 v_68 (.bool false) h69) call fun v_70 h71 =>
arb (.val v_70 h71) call fun v_72 h73 =>
k .ret (upd (upd (upd (upd (upd (upd (upd (upd (upd (upd (upd (upd (upd (upd (upd (upd (upd (upd (upd (upd (upd (upd (upd (upd (upd (upd (upd (upd (upd (upd (upd (upd (upd (upd (upd (upd (upd (enterT [a_a0, b_a1]) 2 a_0) 3 b_2) 4 v_4) 5 v_6) 6 v_8) 7 v_10) 8 v_12) 9 v_14) 10 v_16) 11 v_18) 12 v_20) 13 v_22) 14 v_24) 15 v_26) 16 v_28) 17 v_30) 18 v_32) 19 v_34) 20 v_36) 21 v_38) 22 v_40) 23 v_42) 24 v_44) 25 v_46) 26 v_48) 27 v_50) 28 v_52) 29 v_54) 30 v_56) 31 v_58) 32 v_60) 33 v_62) 34 v_64) 35 v_66) 36 v_68) 37 v_70) 4 v_72) h73
theorem E_precentorref1_SamePred (call : FuncId → List AVal → Heap → Res AVal) (fuel : Nat) (a_a0 b_a1 : AVal) (h : Heap) : bodyR Try.prog call fuel Try.f61 [a_a0, b_a1] h = S_precentorref1_SamePred Try.prog call fuel a_a0 b_a1 h := by kernel_rfl
theorem R_precentorref1_SamePred {X : XTab} (a_a0 b_a1 : AVal) {h : Heap} {Q : AVal → Heap → Prop} (hx : X F_precentorref1_SamePred [a_a0, b_a1] = none) (q : Tells (fun m => S_precentorref1_SamePred Try.prog (acallX Try.prog X m) m a_a0 b_a1 h) Q) :
    Tells (fun m => acallX Try.prog X m F_precentorref1_SamePred [a_a0, b_a1] h) Q :=
  Tells.later (q.le fun m => (E_precentorref1_SamePred (acallX Try.prog X m) m a_a0 b_a1 h) ▸ acallX_le Try.func61 hx m h)

/-! ### precentor/precentorref1.Bits -/
def J_precentorref1_Bits_1 (P : Program) (call : FuncId → List AVal → Heap → Res AVal) (fuel : Nat) (k : Kn (AVal)) (t : T) (h : Heap) : Res (AVal) :=
arb (.val (t 0) h) call fun v_2 h3 =>
arb (.of (aNat P F_math_Float64bits [v_2]) h3) call fun v_4 h5 =>
arb (.val v_4 h5) call fun v_6 h7 =>
k .ret (upd (upd (upd t 8 v_2) 9 v_4) 2 v_6) h7

def J_precentorref1_Bits_0 (P : Program) (call : FuncId → List AVal → Heap → Res AVal) (fuel : Nat) (k : Kn (AVal)) (t : T) (h : Heap) : Res (AVal) :=
lt (sqK (J_precentorref1_Bits_1 P call fuel k) k) fun k8 =>
arb (.val (t 0) h) call fun v_9 h10 =>
arb (.of (aBin P .eql 33 (.tmp 6) (.const (.float .f64 0)) v_9 (.flt .f64 0)) h10) call fun v_11 h12 =>
cb v_11 (
arb (.val (.int .u64 0) h12) call fun v_13 h14 =>
k8 .ret (upd (upd (upd t 6 v_9) 7 v_11) 2 v_13) h14) (
k8 .normal (upd (upd t 6 v_9) 7 v_11) h12)

def S_precentorref1_Bits (P : Program) (call : FuncId → List AVal → Heap → Res AVal) (fuel : Nat) (x_a0 : AVal) (h : Heap) : Res AVal :=
lt (retK P [.tmp 2]) fun k =>
arb (.val (.int .u64 0) h) call fun v_0 h1 =>
lt (sqK (J_precentorref1_Bits_0 P call fuel k) k) fun k15 =>
arb (.val x_a0 h1) call fun v_16 h17 =>
arb (.val x_a0 h17) call fun v_18 h19 =>
arb (.of (aBin P .neq 33 (.tmp 3) (.tmp 4) v_16 v_18) h19) call fun v_20 h21 =>
cb v_20 (
arb (.val (.int .u64 9221120237041090560) h21) call fun v_22 h23 =>
k15 .ret (upd (upd (upd (upd (upd (enterT [x_a0]) 2 v_0) 3 v_16) 4 v_18) 5 v_20) 2 v_22) h23) (
k15 .normal (upd (upd (upd (upd (enterT [x_a0]) 2 v_0) 3 v_16) 4 v_18) 5 v_20) h21)
theorem E_precentorref1_Bits (call : FuncId → List AVal → Heap → Res AVal) (fuel : Nat) (x_a0 : AVal) (h : Heap) : bodyR Try.prog call fuel Try.f65 [x_a0] h = S_precentorref1_Bits Try.prog call fuel x_a0 h := by kernel_rfl
theorem R_precentorref1_Bits {X : XTab} (x_a0 : AVal) {h : Heap} {Q : AVal → Heap → Prop} (hx : X F_precentorref1_Bits [x_a0] = none) (q : Tells (fun m => S_precentorref1_Bits Try.prog (acallX Try.prog X m) m x_a0 h) Q) :
    Tells (fun m => acallX Try.prog X m F_precentorref1_Bits [x_a0] h) Q :=
  Tells.later (q.le fun m => (E_precentorref1_Bits (acallX Try.prog X m) m x_a0 h) ▸ acallX_le Try.func65 hx m h)

/-! ### precentor/precentorref1.sameValues -/
def J_precentorref1_sameValues_1 (P : Program) (call : FuncId → List AVal → Heap → Res AVal) (fuel : Nat) (k : Kn (AVal)) (t : T) (h : Heap) : Res (AVal) :=
arb (.val (.bool true) h) call fun v_2 h3 =>
k .ret (upd t 4 v_2) h3

def J_precentorref1_sameValues_4 (P : Program) (call : FuncId → List AVal → Heap → Res AVal) (fuel : Nat) (k : Kn (Ex × T)) (t : T) (h : Heap) : Res (Ex × T) :=
arb (.val (t 5) h) call fun v_8 h9 =>
arb (.of (aBin P .add 3 (.tmp 15) (.const (.int .i64 1)) v_8 (.int .i64 1)) h9) call fun v_10 h11 =>
arb (.val v_10 h11) call fun i_12 h13 =>
k .normal (upd (upd (upd t 15 v_8) 16 v_10) 5 i_12) h13

def J_precentorref1_sameValues_3 (P : Program) (call : FuncId → List AVal → Heap → Res AVal) (fuel : Nat) (k : Kn (Ex × T)) (t : T) (h : Heap) : Res (Ex × T) :=
lt (sqK (J_precentorref1_sameValues_4 P call fuel k) k) fun k14 =>
lt (blkK 1 k14) fun k15 =>
obv (.val (t 0) h) fun v_16 =>
obv (.val (t 5) h) fun v_18 =>
obv (.of (ixsR 5 v_16 v_18) h) fun v_20 =>
obv (.of (ldn 5 h v_20) h) fun v_22 => ifb true <|
obv (.val (t 1) h) fun v_24 =>
obv (.val (t 5) h) fun v_26 =>
obv (.of (ixsR 5 v_24 v_26) h) fun v_28 =>
obv (.of (ldn 5 h v_28) h) fun v_30 => ifb true <|
arbE (.call F_precentorref1_SameValue [v_22, v_30] h) call fun v_32 h33 => lt h33 fun g33 => ifb (true && true) <|
obv (.of (aUn P .not v_32) g33) fun v_34 =>
cb v_34 (
arb (.val (.bool false) g33) call fun v_36 h37 =>
k15 .ret (upd (upd (upd (upd (upd (upd (upd (upd (upd (upd (upd t 17 v_16) 18 v_18) 19 v_20) 20 v_22) 21 v_24) 22 v_26) 23 v_28) 24 v_30) 25 v_32) 26 v_34) 4 v_36) h37) (
k15 .normal (upd (upd (upd (upd (upd (upd (upd (upd (upd (upd t 17 v_16) 18 v_18) 19 v_20) 20 v_22) 21 v_24) 22 v_26) 23 v_28) 24 v_30) 25 v_32) 26 v_34) g33)

def L_precentorref1_sameValues_2 (P : Program) (call : FuncId → List AVal → Heap → Res AVal) (fuel : Nat) (t : T) (h : Heap) : Res (Ex × T) :=
lt okK fun k =>
lt (sqK (J_precentorref1_sameValues_3 P call fuel k) k) fun k38 =>
arb (.val (t 5) h) call fun v_39 h40 =>
arb (.val (t 0) h40) call fun v_41 h42 =>
arb (.of (lenL v_41) h42) call fun v_43 h44 =>
arb (.of (aBin P .lss 3 (.tmp 11) (.tmp 13) v_39 v_43) h44) call fun v_45 h46 =>
cb v_45 (
k38 .normal (upd (upd (upd (upd t 11 v_39) 12 v_41) 13 v_43) 14 v_45) h46) (
k38 (.exit 0) (upd (upd (upd (upd t 11 v_39) 12 v_41) 13 v_43) 14 v_45) h46)

def J_precentorref1_sameValues_0 (P : Program) (call : FuncId → List AVal → Heap → Res AVal) (fuel : Nat) (k : Kn (AVal)) (t : T) (h : Heap) : Res (AVal) :=
lt (sqK (J_precentorref1_sameValues_1 P call fuel k) k) fun k4 =>
arb (.val (.int .i64 0) h) call fun i_5 h6 =>
lt (blkK 0 k4) fun k7 =>
(loopN (L_precentorref1_sameValues_2 P call fuel) fuel (upd t 5 i_5) h6).bind (lpK k7)

def S_precentorref1_sameValues (P : Program) (call : FuncId → List AVal → Heap → Res AVal) (fuel : Nat) (a_a0 b_a1 : AVal) (h : Heap) : Res AVal :=
lt (retK P [.tmp 4]) fun k =>
arb (.val (.bool false) h) call fun v_0 h1 =>
lt (sqK (J_precentorref1_sameValues_0 P call fuel k) k) fun k47 =>
arb (.val a_a0 h1) call fun v_48 h49 =>
arb (.of (lenL v_48) h49) call fun v_50 h51 =>
arb (.val b_a1 h51) call fun v_52 h53 =>
arb (.of (lenL v_52) h53) call fun v_54 h55 =>
arb (.of (aBin P .neq 3 (.tmp 7) (.tmp 9) v_50 v_54) h55) call fun v_56 h57 =>
cb v_56 (
arb (.val (.bool false) h57) call fun v_58 h59 =>
k47 .ret (upd (upd (upd (upd (upd (upd (upd (enterT [a_a0, b_a1]) 4 v_0) 6 v_48) 7 v_50) 8 v_52) 9 v_54) 10 v_56) 4 v_58) h59) (
k47 .normal (upd (upd (upd (upd (upd (upd (enterT [a_a0, b_a1]) 4 v_0) 6 v_48) 7 v_50) 8 v_52) 9 v_54) 10 v_56) h57)
theorem E_precentorref1_sameValues (call : FuncId → List AVal → Heap → Res AVal) (fuel : Nat) (a_a0 b_a1 : AVal) (h : Heap) : bodyR Try.prog call fuel Try.f67 [a_a0, b_a1] h = S_precentorref1_sameValues Try.prog call fuel a_a0 b_a1 h := by kernel_rfl
theorem R_precentorref1_sameValues {X : XTab} (a_a0 b_a1 : AVal) {h : Heap} {Q : AVal → Heap → Prop} (hx : X F_precentorref1_sameValues [a_a0, b_a1] = none) (q : Tells (fun m => S_precentorref1_sameValues Try.prog (acallX Try.prog X m) m a_a0 b_a1 h) Q) :
    Tells (fun m => acallX Try.prog X m F_precentorref1_sameValues [a_a0, b_a1] h) Q :=
  Tells.later (q.le fun m => (E_precentorref1_sameValues (acallX Try.prog X m) m a_a0 b_a1 h) ▸ acallX_le Try.func67 hx m h)


end Go.Proofs.Ytbolfamaffbnnaa
