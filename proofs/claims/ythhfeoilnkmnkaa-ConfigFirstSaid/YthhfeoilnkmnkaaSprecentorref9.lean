/-
  Functions of precentorref9 in the form of YthhfeoilnkmnkaaABS (printed by a program of ours, gen.lean).
-/
import Derived.Test.YthhfeoilnkmnkaaSIds
set_option linter.unusedVariables false
namespace Go.Proofs.Ythhfeoilnkmnkaa
open Go.Ab
/-! ### precentor/precentorref9.Check -/
def J_precentorref9_Check_1 (P : Program) (call : FuncId → List AVal → Heap → Res AVal) (fuel : Nat) (k : Kn (AVal)) (t : T) (h : Heap) : Res (AVal) :=
arb (.val (.int .i64 0) h) call fun v_4 h5 =>
k .ret (upd t 2 v_4) h5

def J_precentorref9_Check_0 (P : Program) (call : FuncId → List AVal → Heap → Res AVal) (fuel : Nat) (k : Kn (AVal)) (t : T) (h : Heap) : Res (AVal) :=
lt (sqK (J_precentorref9_Check_1 P call fuel k) k) fun k6 =>
arb (.of (fadR 1 (t 1)) h) call fun v_7 h8 =>
arb (.of (ld1 h8 v_7) h8) call fun v_9 h10 =>
arb (.call F_precentorref9_between [v_9, (.int .i64 1), (.int .i64 8)] h10) call fun v_11 h12 =>
arb (.of (aUn P .not v_11) h12) call fun v_13 h14 =>
arb (.val v_13 h14) call fun v_15 h16 =>
gd (wantB v_15 false) (fun c => arb (.of (fadR 2 (t 1)) h16) call c) h16 fun v_17 h18 =>
gd (wantB v_15 false) (fun c => arb (.of (ld1 h18 v_17) h18) call c) h18 fun v_19 h20 =>
gd (wantB v_15 false) (fun c => arb (.call F_precentorref9_between [v_19, (.int .i64 1), (.int .i64 8)] h20) call c) h20 fun v_21 h22 =>
gd (wantB v_15 false) (fun c => arb (.of (aUn P .not v_21) h22) call c) h22 fun v_23 h24 =>
arb (pkR v_15 (.bool true) v_23 h24) call fun v_25 h26 =>
arb (.val v_25 h26) call fun v_27 h28 =>
gd (wantB v_27 false) (fun c => arb (.of (fadR 3 (t 1)) h28) call c) h28 fun v_29 h30 =>
gd (wantB v_27 false) (fun c => arb (.of (ld1 h30 v_29) h30) call c) h30 fun v_31 h32 =>
gd (wantB v_27 false) (fun c => arb (.call F_precentorref9_between [v_31, (.int .i64 1), (.int .i64 8)] h32) call c) h32 fun v_33 h34 =>
gd (wantB v_27 false) (fun c => arb (.of (aUn P .not v_33) h34) call c) h34 fun v_35 h36 =>
arb (pkR v_27 (.bool true) v_35 h36) call fun v_37 h38 =>
arb (.val v_37 h38) call fun v_39 h40 =>
gd (wantB v_39 false) (fun c => arb (.of (fadR 4 (t 1)) h40) call c) h40 fun v_41 h42 =>
gd (wantB v_39 false) (fun c => arb (.of (ld1 h42 v_41) h42) call c) h42 fun v_43 h44 =>
gd (wantB v_39 false) (fun c => arb (.call F_precentorref9_between [v_43, (.int .i64 1), (.int .i64 4)] h44) call c) h44 fun v_45 h46 =>
gd (wantB v_39 false) (fun c => arb (.of (aUn P .not v_45) h46) call c) h46 fun v_47 h48 =>
arb (pkR v_39 (.bool true) v_47 h48) call fun v_49 h50 =>
arb (.val v_49 h50) call fun v_51 h52 =>
gd (wantB v_51 false) (fun c => arb (.of (fadR 5 (t 1)) h52) call c) h52 fun v_53 h54 =>
gd (wantB v_51 false) (fun c => arb (.of (ld1 h54 v_53) h54) call c) h54 fun v_55 h56 =>
gd (wantB v_51 false) (fun c => arb (.call F_precentorref9_between [v_55, (.int .i64 0), (.int .i64 4611686018427387904)] h56) call c) h56 fun v_57 h58 =>
gd (wantB v_51 false) (fun c => arb (.of (aUn P .not v_57) h58) call c) h58 fun v_59 h60 =>
arb (pkR v_51 (.bool true) v_59 h60) call fun v_61 h62 =>
cb v_61 (
arb (.val (.int .i64 1) h62) call fun v_63 h64 =>
k6 .ret (upd (upd (upd (upd (upd (upd (upd (upd (upd (upd (upd (upd (upd (upd (upd (upd (upd (upd (upd (upd (upd (upd (upd (upd (upd (upd (upd (upd (upd t 7 v_7) 8 v_9) 9 v_11) 10 v_13) 11 v_15) 12 v_17) 13 v_19) 14 v_21) 15 v_23) 16 v_25) 17 v_27) 18 v_29) 19 v_31) 20 v_33) 21 v_35) 22 v_37) 23 v_39) 24 v_41) 25 v_43) 26 v_45) 27 v_47) 28 v_49) 29 v_51) 30 v_53) 31 v_55) 32 v_57) 33 v_59) 34 v_61) 2 v_63) h64) (
k6 .normal (upd (upd (upd (upd (upd (upd (upd (upd (upd (upd (upd (upd (upd (upd (upd (upd (upd (upd (upd (upd (upd (upd (upd (upd (upd (upd (upd (upd t 7 v_7) 8 v_9) 9 v_11) 10 v_13) 11 v_15) 12 v_17) 13 v_19) 14 v_21) 15 v_23) 16 v_25) 17 v_27) 18 v_29) 19 v_31) 20 v_33) 21 v_35) 22 v_37) 23 v_39) 24 v_41) 25 v_43) 26 v_45) 27 v_47) 28 v_49) 29 v_51) 30 v_53) 31 v_55) 32 v_57) 33 v_59) 34 v_61) h62)

def S_precentorref9_Check (P : Program) (call : FuncId → List AVal → Heap → Res AVal) (fuel : Nat) (c_a0 : AVal) (h : Heap) : Res AVal :=
lt (retK P [.tmp 2]) fun k =>
arb (boxR c_a0 h) call fun c_0 h1 =>
arb (.val (.int .i64 0) h1) call fun v_2 h3 =>
lt (sqK (J_precentorref9_Check_0 P call fuel k) k) fun k65 =>
arb (.of (fadR 0 c_0) h3) call fun v_66 h67 =>
arb (.of (ld1 h67 v_66) h67) call fun v_68 h69 =>
arb (.call F_precentorref9_RightTree [v_68] h69) call fun v_70 h71 =>
arb (.of (aUn P .not v_70) h71) call fun v_72 h73 =>
cb v_72 (
arb (.val (.int .i64 3) h73) call fun v_74 h75 =>
k65 .ret (upd (upd (upd (upd (upd (upd (upd (enterT [c_a0]) 1 c_0) 2 v_2) 3 v_66) 4 v_68) 5 v_70) 6 v_72) 2 v_74) h75) (
k65 .normal (upd (upd (upd (upd (upd (upd (enterT [c_a0]) 1 c_0) 2 v_2) 3 v_66) 4 v_68) 5 v_70) 6 v_72) h73)
theorem E_precentorref9_Check (call : FuncId → List AVal → Heap → Res AVal) (fuel : Nat) (c_a0 : AVal) (h : Heap) : bodyR Try.prog call fuel Try.f11 [c_a0] h = S_precentorref9_Check Try.prog call fuel c_a0 h := by kernel_rfl
theorem R_precentorref9_Check {X : XTab} (c_a0 : AVal) {h : Heap} {Q : AVal → Heap → Prop} (hx : X F_precentorref9_Check [c_a0] = none) (q : Tells (fun m => S_precentorref9_Check Try.prog (acallX Try.prog X m) m c_a0 h) Q) :
    Tells (fun m => acallX Try.prog X m F_precentorref9_Check [c_a0] h) Q :=
  Tells.later (q.le fun m => (E_precentorref9_Check (acallX Try.prog X m) m c_a0 h) ▸ acallX_le Try.func11 hx m h)

/-! ### precentor/precentorref9.Brokers -/
def J_precentorref9_Brokers_0 (P : Program) (call : FuncId → List AVal → Heap → Res AVal) (fuel : Nat) (k : Kn (AVal)) (t : T) (h : Heap) : Res (AVal) :=
arb (.of (fadR 0 (t 1)) h) call fun v_4 h5 =>
arb (.of (ld1 h5 v_4) h5) call fun v_6 h7 =>
arb (.of (lenL v_6) h7) call fun v_8 h9 =>
arb (.of (aBin P .add 3 (.tmp 8) (.const (.int .i64 1)) v_8 (.int .i64 1)) h9) call fun v_10 h11 =>
arb (.val v_10 h11) call fun v_12 h13 =>
k .ret (upd (upd (upd (upd (upd t 6 v_4) 7 v_6) 8 v_8) 9 v_10) 2 v_12) h13

def S_precentorref9_Brokers (P : Program) (call : FuncId → List AVal → Heap → Res AVal) (fuel : Nat) (c_a0 : AVal) (h : Heap) : Res AVal :=
lt (retK P [.tmp 2]) fun k =>
arb (boxR c_a0 h) call fun c_0 h1 =>
arb (.val (.int .i64 0) h1) call fun v_2 h3 =>
lt (sqK (J_precentorref9_Brokers_0 P call fuel k) k) fun k14 =>
arb (.of (ldn 6 h3 c_0) h3) call fun v_15 h16 =>
arb (.call F_precentorref9_Check [v_15] h16) call fun v_17 h18 =>
arb (.of (aBin P .neq 33 (.tmp 4) (.const (.int .i64 0)) v_17 (.int .i64 0)) h18) call fun v_19 h20 =>
cb v_19 (
arb (.val (.int .i64 0) h20) call fun v_21 h22 =>
k14 .ret (upd (upd (upd (upd (upd (upd (enterT [c_a0]) 1 c_0) 2 v_2) 3 v_15) 4 v_17) 5 v_19) 2 v_21) h22) (
k14 .normal (upd (upd (upd (upd (upd (enterT [c_a0]) 1 c_0) 2 v_2) 3 v_15) 4 v_17) 5 v_19) h20)
theorem E_precentorref9_Brokers (call : FuncId → List AVal → Heap → Res AVal) (fuel : Nat) (c_a0 : AVal) (h : Heap) : bodyR Try.prog call fuel Try.f13 [c_a0] h = S_precentorref9_Brokers Try.prog call fuel c_a0 h := by kernel_rfl
theorem R_precentorref9_Brokers {X : XTab} (c_a0 : AVal) {h : Heap} {Q : AVal → Heap → Prop} (hx : X F_precentorref9_Brokers [c_a0] = none) (q : Tells (fun m => S_precentorref9_Brokers Try.prog (acallX Try.prog X m) m c_a0 h) Q) :
    Tells (fun m => acallX Try.prog X m F_precentorref9_Brokers [c_a0] h) Q :=
  Tells.later (q.le fun m => (E_precentorref9_Brokers (acallX Try.prog X m) m c_a0 h) ▸ acallX_le Try.func13 hx m h)

/-! ### precentor/precentorref9.Flying -/

def S_precentorref9_Flying (P : Program) (call : FuncId → List AVal → Heap → Res AVal) (fuel : Nat) (c_a0 : AVal) (h : Heap) : Res AVal :=
lt (retK P [.tmp 2]) fun k =>
arb (boxR c_a0 h) call fun c_0 h1 =>
arb (.val (.int .i64 0) h1) call fun v_2 h3 =>
obv (.of (ldn 6 h3 c_0) h3) fun v_4 => ifb true <|
arbE (.call F_precentorref9_Brokers [v_4] h3) call fun v_6 h7 => lt h7 fun g7 => ifb (true && true) <|
obv (.of (fadR 4 c_0) g7) fun v_8 =>
obv (.of (ld1 g7 v_8) g7) fun v_10 => ifb (isV v_10 (arVal (.of (ld1 h3 v_8) h3)) && true) <|
obv (.of (aBin P .mul 3 (.tmp 4) (.tmp 6) v_6 v_10) g7) fun v_12 =>
obv (.val v_12 g7) fun v_14 =>
k .ret (upd (upd (upd (upd (upd (upd (upd (upd (enterT [c_a0]) 1 c_0) 2 v_2) 3 v_4) 4 v_6) 5 v_8) 6 v_10) 7 v_12) 2 v_14) g7
theorem E_precentorref9_Flying (call : FuncId → List AVal → Heap → Res AVal) (fuel : Nat) (c_a0 : AVal) (h : Heap) : bodyR Try.prog call fuel Try.f15 [c_a0] h = S_precentorref9_Flying Try.prog call fuel c_a0 h := by kernel_rfl
theorem R_precentorref9_Flying {X : XTab} (c_a0 : AVal) {h : Heap} {Q : AVal → Heap → Prop} (hx : X F_precentorref9_Flying [c_a0] = none) (q : Tells (fun m => S_precentorref9_Flying Try.prog (acallX Try.prog X m) m c_a0 h) Q) :
    Tells (fun m => acallX Try.prog X m F_precentorref9_Flying [c_a0] h) Q :=
  Tells.later (q.le fun m => (E_precentorref9_Flying (acallX Try.prog X m) m c_a0 h) ▸ acallX_le Try.func15 hx m h)

/-! ### precentor/precentorref9.Room -/
def J_precentorref9_Room_0 (P : Program) (call : FuncId → List AVal → Heap → Res AVal) (fuel : Nat) (k : Kn (AVal)) (t : T) (h : Heap) : Res (AVal) :=
arb (.of (ldn 6 h (t 1)) h) call fun v_10 h11 =>
arb (.call F_precentorref9_Flying [v_10] h11) call fun v_12 h13 =>
arb (.val (t 3) h13) call fun v_14 h15 =>
arb (.of (aBin P .add 3 (.tmp 10) (.const (.int .i64 1)) v_14 (.int .i64 1)) h15) call fun v_16 h17 =>
arb (.of (aBin P .mul 3 (.tmp 9) (.tmp 11) v_12 v_16) h17) call fun v_18 h19 =>
arb (.of (aBin P .add 3 (.tmp 12) (.const (.int .i64 6)) v_18 (.int .i64 6)) h19) call fun v_20 h21 =>
arb (.val (t 3) h21) call fun v_22 h23 =>
arb (.of (aBin P .add 3 (.tmp 13) (.tmp 14) v_20 v_22) h23) call fun v_24 h25 =>
arb (.of (aBin P .add 3 (.tmp 15) (.const (.int .i64 2)) v_24 (.int .i64 2)) h25) call fun v_26 h27 =>
arb (.val v_26 h27) call fun v_28 h29 =>
k .ret (upd (upd (upd (upd (upd (upd (upd (upd (upd (upd t 8 v_10) 9 v_12) 10 v_14) 11 v_16) 12 v_18) 13 v_20) 14 v_22) 15 v_24) 16 v_26) 2 v_28) h29

def S_precentorref9_Room (P : Program) (call : FuncId → List AVal → Heap → Res AVal) (fuel : Nat) (c_a0 : AVal) (h : Heap) : Res AVal :=
lt (retK P [.tmp 2]) fun k =>
arb (boxR c_a0 h) call fun c_0 h1 =>
arb (.val (.int .i64 0) h1) call fun v_2 h3 =>
arb (.of (ldn 6 h3 c_0) h3) call fun v_4 h5 =>
arb (.call F_precentorref9_Brokers [v_4] h5) call fun v_6 h7 =>
arb (.val v_6 h7) call fun n_8 h9 =>
lt (sqK (J_precentorref9_Room_0 P call fuel k) k) fun k30 =>
arb (.val n_8 h9) call fun v_31 h32 =>
arb (.of (aBin P .eql 3 (.tmp 6) (.const (.int .i64 0)) v_31 (.int .i64 0)) h32) call fun v_33 h34 =>
cb v_33 (
arb (.val (.int .i64 0) h34) call fun v_35 h36 =>
k30 .ret (upd (upd (upd (upd (upd (upd (upd (upd (enterT [c_a0]) 1 c_0) 2 v_2) 4 v_4) 5 v_6) 3 n_8) 6 v_31) 7 v_33) 2 v_35) h36) (
k30 .normal (upd (upd (upd (upd (upd (upd (upd (enterT [c_a0]) 1 c_0) 2 v_2) 4 v_4) 5 v_6) 3 n_8) 6 v_31) 7 v_33) h34)
theorem E_precentorref9_Room (call : FuncId → List AVal → Heap → Res AVal) (fuel : Nat) (c_a0 : AVal) (h : Heap) : bodyR Try.prog call fuel Try.f17 [c_a0] h = S_precentorref9_Room Try.prog call fuel c_a0 h := by kernel_rfl
theorem R_precentorref9_Room {X : XTab} (c_a0 : AVal) {h : Heap} {Q : AVal → Heap → Prop} (hx : X F_precentorref9_Room [c_a0] = none) (q : Tells (fun m => S_precentorref9_Room Try.prog (acallX Try.prog X m) m c_a0 h) Q) :
    Tells (fun m => acallX Try.prog X m F_precentorref9_Room [c_a0] h) Q :=
  Tells.later (q.le fun m => (E_precentorref9_Room (acallX Try.prog X m) m c_a0 h) ▸ acallX_le Try.func17 hx m h)

/-! ### precentor/precentorref9.RightTree -/
def J_precentorref9_RightTree_0 (P : Program) (call : FuncId → List AVal → Heap → Res AVal) (fuel : Nat) (k : Kn (AVal)) (t : T) (h : Heap) : Res (AVal) :=
arb (.val (t 0) h) call fun v_2 h3 =>
arb (.of (lenL v_2) h3) call fun v_4 h5 =>
arb (.of (aBin P .leq 3 (.tmp 24) (.const (.int .i64 7)) v_4 (.int .i64 7)) h5) call fun v_6 h7 =>
arb (.val v_6 h7) call fun v_8 h9 =>
k .ret (upd (upd (upd (upd t 23 v_2) 24 v_4) 25 v_6) 2 v_8) h9

def J_precentorref9_RightTree_3 (P : Program) (call : FuncId → List AVal → Heap → Res AVal) (fuel : Nat) (k : Kn (Ex × T)) (t : T) (h : Heap) : Res (Ex × T) :=
arb (.val (t 3) h) call fun v_14 h15 =>
arb (.of (aBin P .add 3 (.tmp 8) (.const (.int .i64 1)) v_14 (.int .i64 1)) h15) call fun v_16 h17 =>
arb (.val v_16 h17) call fun i_18 h19 =>
k .normal (upd (upd (upd t 8 v_14) 9 v_16) 3 i_18) h19

def J_precentorref9_RightTree_2 (P : Program) (call : FuncId → List AVal → Heap → Res AVal) (fuel : Nat) (k : Kn (Ex × T)) (t : T) (h : Heap) : Res (Ex × T) :=
lt (sqK (J_precentorref9_RightTree_3 P call fuel k) k) fun k20 =>
lt (blkK 1 k20) fun k21 =>
arb (.val (t 0) h) call fun v_22 h23 =>
arb (.val (t 3) h23) call fun v_24 h25 =>
arb (.of (ixsR 1 v_22 v_24) h25) call fun v_26 h27 =>
arb (.of (ld1 h27 v_26) h27) call fun v_28 h29 =>
arb (.of (aBin P .lss 3 (.tmp 13) (.const (.int .i64 0)) v_28 (.int .i64 0)) h29) call fun v_30 h31 =>
arb (.val v_30 h31) call fun v_32 h33 =>
gd (wantB v_32 false) (fun c => arb (.val (t 0) h33) call c) h33 fun v_34 h35 =>
gd (wantB v_32 false) (fun c => arb (.val (t 3) h35) call c) h35 fun v_36 h37 =>
gd (wantB v_32 false) (fun c => arb (.of (ixsR 1 v_34 v_36) h37) call c) h37 fun v_38 h39 =>
gd (wantB v_32 false) (fun c => arb (.of (ld1 h39 v_38) h39) call c) h39 fun v_40 h41 =>
gd (wantB v_32 false) (fun c => arb (.val (t 3) h41) call c) h41 fun v_42 h43 =>
gd (wantB v_32 false) (fun c => arb (.of (aBin P .gtr 3 (.tmp 19) (.tmp 20) v_40 v_42) h43) call c) h43 fun v_44 h45 =>
arb (pkR v_32 (.bool true) v_44 h45) call fun v_46 h47 =>
cb v_46 (
arb (.val (.bool false) h47) call fun v_48 h49 =>
k21 .ret (upd (upd (upd (upd (upd (upd (upd (upd (upd (upd (upd (upd (upd (upd t 10 v_22) 11 v_24) 12 v_26) 13 v_28) 14 v_30) 15 v_32) 16 v_34) 17 v_36) 18 v_38) 19 v_40) 20 v_42) 21 v_44) 22 v_46) 2 v_48) h49) (
k21 .normal (upd (upd (upd (upd (upd (upd (upd (upd (upd (upd (upd (upd (upd t 10 v_22) 11 v_24) 12 v_26) 13 v_28) 14 v_30) 15 v_32) 16 v_34) 17 v_36) 18 v_38) 19 v_40) 20 v_42) 21 v_44) 22 v_46) h47)

def L_precentorref9_RightTree_1 (P : Program) (call : FuncId → List AVal → Heap → Res AVal) (fuel : Nat) (t : T) (h : Heap) : Res (Ex × T) :=
lt okK fun k =>
lt (sqK (J_precentorref9_RightTree_2 P call fuel k) k) fun k50 =>
arb (.val (t 3) h) call fun v_51 h52 =>
arb (.val (t 0) h52) call fun v_53 h54 =>
arb (.of (lenL v_53) h54) call fun v_55 h56 =>
arb (.of (aBin P .lss 3 (.tmp 4) (.tmp 6) v_51 v_55) h56) call fun v_57 h58 =>
cb v_57 (
k50 .normal (upd (upd (upd (upd t 4 v_51) 5 v_53) 6 v_55) 7 v_57) h58) (
k50 (.exit 0) (upd (upd (upd (upd t 4 v_51) 5 v_53) 6 v_55) 7 v_57) h58)

def S_precentorref9_RightTree (P : Program) (call : FuncId → List AVal → Heap → Res AVal) (fuel : Nat) (p_a0 : AVal) (h : Heap) : Res AVal :=
lt (retK P [.tmp 2]) fun k =>
arb (.val (.bool false) h) call fun v_0 h1 =>
lt (sqK (J_precentorref9_RightTree_0 P call fuel k) k) fun k10 =>
arb (.val (.int .i64 0) h1) call fun i_11 h12 =>
lt (blkK 0 k10) fun k13 =>
(loopN (L_precentorref9_RightTree_1 P call fuel) fuel (upd (upd (enterT [p_a0]) 2 v_0) 3 i_11) h12).bind (lpK k13)
theorem E_precentorref9_RightTree (call : FuncId → List AVal → Heap → Res AVal) (fuel : Nat) (p_a0 : AVal) (h : Heap) : bodyR Try.prog call fuel Try.f21 [p_a0] h = S_precentorref9_RightTree Try.prog call fuel p_a0 h := by kernel_rfl
theorem R_precentorref9_RightTree {X : XTab} (p_a0 : AVal) {h : Heap} {Q : AVal → Heap → Prop} (hx : X F_precentorref9_RightTree [p_a0] = none) (q : Tells (fun m => S_precentorref9_RightTree Try.prog (acallX Try.prog X m) m p_a0 h) Q) :
    Tells (fun m => acallX Try.prog X m F_precentorref9_RightTree [p_a0] h) Q :=
  Tells.later (q.le fun m => (E_precentorref9_RightTree (acallX Try.prog X m) m p_a0 h) ▸ acallX_le Try.func21 hx m h)

/-! ### precentor/precentorref9.between -/

def S_precentorref9_between (P : Program) (call : FuncId → List AVal → Heap → Res AVal) (fuel : Nat) (n_a0 a_a1 b_a2 : AVal) (h : Heap) : Res AVal :=
lt (retK P [.tmp 6]) fun k =>
arb (.val (.bool false) h) call fun v_0 h1 =>
arb (.val n_a0 h1) call fun v_2 h3 =>
arb (.val a_a1 h3) call fun v_4 h5 =>
arb (.of (aBin P .geq 3 (.tmp 7) (.tmp 8) v_2 v_4) h5) call fun v_6 h7 =>
arb (.val v_6 h7) call fun v_8 h9 =>
gd (wantB v_8 true) (fun c => arb (.val n_a0 h9) call c) h9 fun v_10 h11 =>
gd (wantB v_8 true) (fun c => arb (.val b_a2 h11) call c) h11 fun v_12 h13 =>
gd (wantB v_8 true) (fun c => arb (.of (aBin P .leq 3 (.tmp 11) (.tmp 12) v_10 v_12) h13) call c) h13 fun v_14 h15 =>
arb (pkR v_8 v_14 (.bool false) h15) call fun v_16 h17 =>
arb (.val v_16 h17) call fun v_18 h19 =>
k .ret (upd (upd (upd (upd (upd (upd (upd (upd (upd (upd (enterT [n_a0, a_a1, b_a2]) 6 v_0) 7 v_2) 8 v_4) 9 v_6) 10 v_8) 11 v_10) 12 v_12) 13 v_14) 14 v_16) 6 v_18) h19
theorem E_precentorref9_between (call : FuncId → List AVal → Heap → Res AVal) (fuel : Nat) (n_a0 a_a1 b_a2 : AVal) (h : Heap) : bodyR Try.prog call fuel Try.f22 [n_a0, a_a1, b_a2] h = S_precentorref9_between Try.prog call fuel n_a0 a_a1 b_a2 h := by kernel_rfl
theorem R_precentorref9_between {X : XTab} (n_a0 a_a1 b_a2 : AVal) {h : Heap} {Q : AVal → Heap → Prop} (hx : X F_precentorref9_between [n_a0, a_a1, b_a2] = none) (q : Tells (fun m => S_precentorref9_between Try.prog (acallX Try.prog X m) m n_a0 a_a1 b_a2 h) Q) :
    Tells (fun m => acallX Try.prog X m F_precentorref9_between [n_a0, a_a1, b_a2] h) Q :=
  Tells.later (q.le fun m => (E_precentorref9_between (acallX Try.prog X m) m n_a0 a_a1 b_a2 h) ▸ acallX_le Try.func22 hx m h)


end Go.Proofs.Ythhfeoilnkmnkaa
