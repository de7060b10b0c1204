/-
  Functions of precentorref14 in the form of YtebkohdmoaginaaABS (printed by a program of ours, gen.lean).
-/
import Derived.Test.YtebkohdmoaginaaSIds
set_option linter.unusedVariables false
namespace Go.Proofs.Ytebkohdmoaginaa
open Go.Ab
/-! ### precentor/precentorref14.NewTurn -/
def J_precentorref14_NewTurn_1 (P : Program) (call : FuncId → List AVal → Heap → Res AVal) (fuel : Nat) (k : Kn (AVal)) (t : T) (h : Heap) : Res (AVal) :=
arb (.val (t 0) h) call fun v_4 h5 =>
arb (.val (t 1) h5) call fun v_6 h7 =>
arb (.of (bldR [.nils, (.int .i64 0), (.int .i64 0), (.bool false), (.bool false), .nils, .nils] [(0, 1, v_4), (1, 1, v_6)]) h7) call fun v_8 h9 =>
arb (boxR v_8 h9) call fun v_10 h11 =>
arb (.val v_10 h11) call fun v_12 h13 =>
arb (.val (.int .i64 0) h13) call fun v_14 h15 =>
k .ret (upd (upd (upd (upd (upd (upd t 17 v_4) 18 v_6) 19 v_8) 20 v_10) 4 v_12) 5 v_14) h15

def J_precentorref14_NewTurn_0 (P : Program) (call : FuncId → List AVal → Heap → Res AVal) (fuel : Nat) (k : Kn (AVal)) (t : T) (h : Heap) : Res (AVal) :=
lt (sqK (J_precentorref14_NewTurn_1 P call fuel k) k) fun k16 =>
arb (.val (t 1) h) call fun v_17 h18 =>
arb (.of (aBin P .lss 3 (.tmp 9) (.const (.int .i64 0)) v_17 (.int .i64 0)) h18) call fun v_19 h20 =>
arb (.val v_19 h20) call fun v_21 h22 =>
gd (wantB v_21 false) (fun c => arb (.val (t 1) h22) call c) h22 fun v_23 h24 =>
gd (wantB v_21 false) (fun c => arb (.val (t 0) h24) call c) h24 fun v_25 h26 =>
gd (wantB v_21 false) (fun c => arb (.of (lenL v_25) h26) call c) h26 fun v_27 h28 =>
gd (wantB v_21 false) (fun c => arb (.of (aBin P .gtr 3 (.tmp 12) (.tmp 14) v_23 v_27) h28) call c) h28 fun v_29 h30 =>
arb (pkR v_21 (.bool true) v_29 h30) call fun v_31 h32 =>
cb v_31 (
arb (.val .nilp h32) call fun v_33 h34 =>
arb (.val (.int .i64 4) h34) call fun v_35 h36 =>
k16 .ret (upd (upd (upd (upd (upd (upd (upd (upd (upd (upd t 9 v_17) 10 v_19) 11 v_21) 12 v_23) 13 v_25) 14 v_27) 15 v_29) 16 v_31) 4 v_33) 5 v_35) h36) (
k16 .normal (upd (upd (upd (upd (upd (upd (upd (upd t 9 v_17) 10 v_19) 11 v_21) 12 v_23) 13 v_25) 14 v_27) 15 v_29) 16 v_31) h32)

def S_precentorref14_NewTurn (P : Program) (call : FuncId → List AVal → Heap → Res AVal) (fuel : Nat) (p_a0 b_a1 : AVal) (h : Heap) : Res AVal :=
lt (retK P [.tmp 4, .tmp 5]) fun k =>
arb (.val .nilp h) call fun v_0 h1 =>
arb (.val (.int .i64 0) h1) call fun v_2 h3 =>
lt (sqK (J_precentorref14_NewTurn_0 P call fuel k) k) fun k37 =>
arb (.val p_a0 h3) call fun v_38 h39 =>
arb (.call F_precentorref9_RightTree [v_38] h39) call fun v_40 h41 =>
arb (.of (aUn P .not v_40) h41) call fun v_42 h43 =>
cb v_42 (
arb (.val .nilp h43) call fun v_44 h45 =>
arb (.val (.int .i64 3) h45) call fun v_46 h47 =>
k37 .ret (upd (upd (upd (upd (upd (upd (upd (enterT [p_a0, b_a1]) 4 v_0) 5 v_2) 6 v_38) 7 v_40) 8 v_42) 4 v_44) 5 v_46) h47) (
k37 .normal (upd (upd (upd (upd (upd (enterT [p_a0, b_a1]) 4 v_0) 5 v_2) 6 v_38) 7 v_40) 8 v_42) h43)
theorem E_precentorref14_NewTurn (call : FuncId → List AVal → Heap → Res AVal) (fuel : Nat) (p_a0 b_a1 : AVal) (h : Heap) : bodyR Try.prog call fuel Try.f8 [p_a0, b_a1] h = S_precentorref14_NewTurn Try.prog call fuel p_a0 b_a1 h := by kernel_rfl
theorem R_precentorref14_NewTurn {X : XTab} (p_a0 b_a1 : AVal) {h : Heap} {Q : AVal → Heap → Prop} (hx : X F_precentorref14_NewTurn [p_a0, b_a1] = none) (q : Tells (fun m => S_precentorref14_NewTurn Try.prog (acallX Try.prog X m) m p_a0 b_a1 h) Q) :
    Tells (fun m => acallX Try.prog X m F_precentorref14_NewTurn [p_a0, b_a1] h) Q :=
  Tells.later (q.le fun m => (E_precentorref14_NewTurn (acallX Try.prog X m) m p_a0 b_a1 h) ▸ acallX_le Try.func8 hx m h)

/-! ### (*precentor/precentorref14.Turn).Add -/
def J_precentorref14_Turn_Add_0 (P : Program) (call : FuncId → List AVal → Heap → Res AVal) (fuel : Nat) (k : Kn (AVal)) (t : T) (h : Heap) : Res (AVal) :=
obv (.val (t 0) h) fun v_4 =>
arbV (bslR 5 [] 0 h []) fun v_6 h7 =>
obv (.val (t 0) h7) fun v_8 =>
obv (nckR v_8 h7) fun v_10 =>
obv (.of (fadR 6 v_10) h7) fun v_12 =>
obv (.of (ld1 (killIf true h7 h.next) v_12) (killIf true h7 h.next)) fun v_14 => ifb true <|
arbE (appR 5 56 h7 v_6 v_14) call fun v_16 h17 => lt h17 fun g17 => ifb (true && true) <|
obv (.of (ldn 5 (killIf true g17 h.next) (t 3)) (killIf true g17 h.next)) fun v_18 => ifb (isV v_18 (arVal (.of (ldn 5 (killIf true h7 h.next) (t 3)) (killIf true h7 h.next))) && true) <|
arbV (bslR 5 [(.bool false), (.int .i64 0), (.int .i64 0), (.int .i64 0), .nils] 1 g17 [(0, 5, v_18)]) fun v_20 h21 =>
arbE (appR 5 56 h21 v_16 v_20) call fun v_22 h23 => lt h23 fun g23 => ifb (true && true) <|
obv (nckR v_4 g23) fun v_24 =>
obv (.of (fadR 6 v_24) g23) fun v_26 =>
arbE (stR 1 g23 v_26 v_22) call fun v_28 h29 => lt h29 fun g29 => ifb (true && true) <|
arb (.val (.bool true) g29) call fun v_30 h31 =>
k .ret (upd (upd (upd (upd (upd (upd (upd (upd (upd (upd (upd (upd (upd t 10 v_4) 11 v_6) 12 v_8) 13 v_10) 14 v_12) 15 v_14) 16 v_16) 17 v_18) 18 v_20) 19 v_22) 20 v_24) 21 v_26) 4 v_30) h31

def S_precentorref14_Turn_Add (P : Program) (call : FuncId → List AVal → Heap → Res AVal) (fuel : Nat) (t_a0 c_a1 : AVal) (h : Heap) : Res AVal :=
lt (retK P [.tmp 4]) fun k =>
arb (boxR c_a1 h) call fun c_0 h1 =>
arb (.val (.bool false) h1) call fun v_2 h3 =>
lt (sqK (J_precentorref14_Turn_Add_0 P call fuel k) k) fun k32 =>
arb (.val t_a0 h3) call fun v_33 h34 =>
arb (nckR v_33 h34) call fun v_35 h36 =>
arb (.of (fadR 1 v_35) h36) call fun v_37 h38 =>
arb (.of (ld1 h38 v_37) h38) call fun v_39 h40 =>
arb (.of (aBin P .neq 3 (.tmp 8) (.const (.int .i64 0)) v_39 (.int .i64 0)) h40) call fun v_41 h42 =>
cb v_41 (
arb (.val (.bool false) h42) call fun v_43 h44 =>
k32 .ret (upd (upd (upd (upd (upd (upd (upd (upd (enterT [t_a0, c_a1]) 3 c_0) 4 v_2) 5 v_33) 6 v_35) 7 v_37) 8 v_39) 9 v_41) 4 v_43) h44) (
k32 .normal (upd (upd (upd (upd (upd (upd (upd (enterT [t_a0, c_a1]) 3 c_0) 4 v_2) 5 v_33) 6 v_35) 7 v_37) 8 v_39) 9 v_41) h42)
theorem E_precentorref14_Turn_Add (call : FuncId → List AVal → Heap → Res AVal) (fuel : Nat) (t_a0 c_a1 : AVal) (h : Heap) : bodyR Try.prog call fuel Try.f12 [t_a0, c_a1] h = S_precentorref14_Turn_Add Try.prog call fuel t_a0 c_a1 h := by kernel_rfl
theorem R_precentorref14_Turn_Add {X : XTab} (t_a0 c_a1 : AVal) {h : Heap} {Q : AVal → Heap → Prop} (hx : X F_precentorref14_Turn_Add [t_a0, c_a1] = none) (q : Tells (fun m => S_precentorref14_Turn_Add Try.prog (acallX Try.prog X m) m t_a0 c_a1 h) Q) :
    Tells (fun m => acallX Try.prog X m F_precentorref14_Turn_Add [t_a0, c_a1] h) Q :=
  Tells.later (q.le fun m => (E_precentorref14_Turn_Add (acallX Try.prog X m) m t_a0 c_a1 h) ▸ acallX_le Try.func12 hx m h)

/-! ### (*precentor/precentorref14.Turn).Begin -/
def J_precentorref14_Turn_Begin_0 (P : Program) (call : FuncId → List AVal → Heap → Res AVal) (fuel : Nat) (k : Kn (AVal)) (t : T) (h : Heap) : Res (AVal) :=
arb (.val (t 0) h) call fun v_2 h3 =>
arb (nckR v_2 h3) call fun v_4 h5 =>
arb (.of (fadR 3 v_4) h5) call fun v_6 h7 =>
arb (stR 1 h7 v_6 (.bool true)) call fun v_8 h9 =>
arb (.val (.bool true) h9) call fun v_10 h11 =>
k .ret (upd (upd (upd (upd t 22 v_2) 23 v_4) 24 v_6) 2 v_10) h11

def S_precentorref14_Turn_Begin (P : Program) (call : FuncId → List AVal → Heap → Res AVal) (fuel : Nat) (t_a0 : AVal) (h : Heap) : Res AVal :=
lt (retK P [.tmp 2]) fun k =>
arb (.val (.bool false) h) call fun v_0 h1 =>
lt (sqK (J_precentorref14_Turn_Begin_0 P call fuel k) k) fun k12 =>
arb (.val t_a0 h1) call fun v_13 h14 =>
arb (nckR v_13 h14) call fun v_15 h16 =>
arb (.of (fadR 1 v_15) h16) call fun v_17 h18 =>
arb (.of (ld1 h18 v_17) h18) call fun v_19 h20 =>
arb (.of (aBin P .neq 3 (.tmp 6) (.const (.int .i64 0)) v_19 (.int .i64 0)) h20) call fun v_21 h22 =>
arb (.val v_21 h22) call fun v_23 h24 =>
gd (wantB v_23 false) (fun c => arb (.val t_a0 h24) call c) h24 fun v_25 h26 =>
gd (wantB v_23 false) (fun c => arb (nckR v_25 h26) call c) h26 fun v_27 h28 =>
gd (wantB v_23 false) (fun c => arb (.of (fadR 3 v_27) h28) call c) h28 fun v_29 h30 =>
gd (wantB v_23 false) (fun c => arb (.of (ld1 h30 v_29) h30) call c) h30 fun v_31 h32 =>
arb (pkR v_23 (.bool true) v_31 h32) call fun v_33 h34 =>
arb (.val v_33 h34) call fun v_35 h36 =>
gd (wantB v_35 false) (fun c => arb (.val t_a0 h36) call c) h36 fun v_37 h38 =>
gd (wantB v_35 false) (fun c => arb (nckR v_37 h38) call c) h38 fun v_39 h40 =>
gd (wantB v_35 false) (fun c => arb (.of (fadR 6 v_39) h40) call c) h40 fun v_41 h42 =>
gd (wantB v_35 false) (fun c => arb (.of (ld1 h42 v_41) h42) call c) h42 fun v_43 h44 =>
gd (wantB v_35 false) (fun c => arb (.of (lenL v_43) h44) call c) h44 fun v_45 h46 =>
gd (wantB v_35 false) (fun c => arb (.of (aBin P .eql 3 (.tmp 19) (.const (.int .i64 0)) v_45 (.int .i64 0)) h46) call c) h46 fun v_47 h48 =>
arb (pkR v_35 (.bool true) v_47 h48) call fun v_49 h50 =>
cb v_49 (
arb (.val (.bool false) h50) call fun v_51 h52 =>
k12 .ret (upd (upd (upd (upd (upd (upd (upd (upd (upd (upd (upd (upd (upd (upd (upd (upd (upd (upd (upd (upd (upd (enterT [t_a0]) 2 v_0) 3 v_13) 4 v_15) 5 v_17) 6 v_19) 7 v_21) 8 v_23) 9 v_25) 10 v_27) 11 v_29) 12 v_31) 13 v_33) 14 v_35) 15 v_37) 16 v_39) 17 v_41) 18 v_43) 19 v_45) 20 v_47) 21 v_49) 2 v_51) h52) (
k12 .normal (upd (upd (upd (upd (upd (upd (upd (upd (upd (upd (upd (upd (upd (upd (upd (upd (upd (upd (upd (upd (enterT [t_a0]) 2 v_0) 3 v_13) 4 v_15) 5 v_17) 6 v_19) 7 v_21) 8 v_23) 9 v_25) 10 v_27) 11 v_29) 12 v_31) 13 v_33) 14 v_35) 15 v_37) 16 v_39) 17 v_41) 18 v_43) 19 v_45) 20 v_47) 21 v_49) h50)
theorem E_precentorref14_Turn_Begin (call : FuncId → List AVal → Heap → Res AVal) (fuel : Nat) (t_a0 : AVal) (h : Heap) : bodyR Try.prog call fuel Try.f14 [t_a0] h = S_precentorref14_Turn_Begin Try.prog call fuel t_a0 h := by kernel_rfl
theorem R_precentorref14_Turn_Begin {X : XTab} (t_a0 : AVal) {h : Heap} {Q : AVal → Heap → Prop} (hx : X F_precentorref14_Turn_Begin [t_a0] = none) (q : Tells (fun m => S_precentorref14_Turn_Begin Try.prog (acallX Try.prog X m) m t_a0 h) Q) :
    Tells (fun m => acallX Try.prog X m F_precentorref14_Turn_Begin [t_a0] h) Q :=
  Tells.later (q.le fun m => (E_precentorref14_Turn_Begin (acallX Try.prog X m) m t_a0 h) ▸ acallX_le Try.func14 hx m h)

/-! ### (*precentor/precentorref14.Turn).Stop -/
def J_precentorref14_Turn_Stop_0 (P : Program) (call : FuncId → List AVal → Heap → Res AVal) (fuel : Nat) (k : Kn (AVal)) (t : T) (h : Heap) : Res (AVal) :=
arb (.val (t 0) h) call fun v_2 h3 =>
arb (nckR v_2 h3) call fun v_4 h5 =>
arb (.of (fadR 3 v_4) h5) call fun v_6 h7 =>
arb (stR 1 h7 v_6 (.bool true)) call fun v_8 h9 =>
arb (.val (.bool true) h9) call fun v_10 h11 =>
k .ret (upd (upd (upd (upd t 24 v_2) 25 v_4) 26 v_6) 4 v_10) h11

def S_precentorref14_Turn_Stop (P : Program) (call : FuncId → List AVal → Heap → Res AVal) (fuel : Nat) (t_a0 epoch_a1 : AVal) (h : Heap) : Res AVal :=
lt (retK P [.tmp 4]) fun k =>
arb (.val (.bool false) h) call fun v_0 h1 =>
lt (sqK (J_precentorref14_Turn_Stop_0 P call fuel k) k) fun k12 =>
arb (.val t_a0 h1) call fun v_13 h14 =>
arb (nckR v_13 h14) call fun v_15 h16 =>
arb (.of (fadR 1 v_15) h16) call fun v_17 h18 =>
arb (.of (ld1 h18 v_17) h18) call fun v_19 h20 =>
arb (.of (aBin P .eql 3 (.tmp 8) (.const (.int .i64 0)) v_19 (.int .i64 0)) h20) call fun v_21 h22 =>
arb (.val v_21 h22) call fun v_23 h24 =>
gd (wantB v_23 false) (fun c => arb (.val t_a0 h24) call c) h24 fun v_25 h26 =>
gd (wantB v_23 false) (fun c => arb (nckR v_25 h26) call c) h26 fun v_27 h28 =>
gd (wantB v_23 false) (fun c => arb (.of (fadR 3 v_27) h28) call c) h28 fun v_29 h30 =>
gd (wantB v_23 false) (fun c => arb (.of (ld1 h30 v_29) h30) call c) h30 fun v_31 h32 =>
arb (pkR v_23 (.bool true) v_31 h32) call fun v_33 h34 =>
arb (.val v_33 h34) call fun v_35 h36 =>
gd (wantB v_35 false) (fun c => arb (.val epoch_a1 h36) call c) h36 fun v_37 h38 =>
gd (wantB v_35 false) (fun c => arb (.val t_a0 h38) call c) h38 fun v_39 h40 =>
gd (wantB v_35 false) (fun c => arb (nckR v_39 h40) call c) h40 fun v_41 h42 =>
gd (wantB v_35 false) (fun c => arb (.of (fadR 2 v_41) h42) call c) h42 fun v_43 h44 =>
gd (wantB v_35 false) (fun c => arb (.of (ld1 h44 v_43) h44) call c) h44 fun v_45 h46 =>
gd (wantB v_35 false) (fun c => arb (.of (aBin P .neq 3 (.tmp 17) (.tmp 21) v_37 v_45) h46) call c) h46 fun v_47 h48 =>
arb (pkR v_35 (.bool true) v_47 h48) call fun v_49 h50 =>
cb v_49 (
arb (.val (.bool false) h50) call fun v_51 h52 =>
k12 .ret (upd (upd (upd (upd (upd (upd (upd (upd (upd (upd (upd (upd (upd (upd (upd (upd (upd (upd (upd (upd (upd (enterT [t_a0, epoch_a1]) 4 v_0) 5 v_13) 6 v_15) 7 v_17) 8 v_19) 9 v_21) 10 v_23) 11 v_25) 12 v_27) 13 v_29) 14 v_31) 15 v_33) 16 v_35) 17 v_37) 18 v_39) 19 v_41) 20 v_43) 21 v_45) 22 v_47) 23 v_49) 4 v_51) h52) (
k12 .normal (upd (upd (upd (upd (upd (upd (upd (upd (upd (upd (upd (upd (upd (upd (upd (upd (upd (upd (upd (upd (enterT [t_a0, epoch_a1]) 4 v_0) 5 v_13) 6 v_15) 7 v_17) 8 v_19) 9 v_21) 10 v_23) 11 v_25) 12 v_27) 13 v_29) 14 v_31) 15 v_33) 16 v_35) 17 v_37) 18 v_39) 19 v_41) 20 v_43) 21 v_45) 22 v_47) 23 v_49) h50)
theorem E_precentorref14_Turn_Stop (call : FuncId → List AVal → Heap → Res AVal) (fuel : Nat) (t_a0 epoch_a1 : AVal) (h : Heap) : bodyR Try.prog call fuel Try.f16 [t_a0, epoch_a1] h = S_precentorref14_Turn_Stop Try.prog call fuel t_a0 epoch_a1 h := by kernel_rfl
theorem R_precentorref14_Turn_Stop {X : XTab} (t_a0 epoch_a1 : AVal) {h : Heap} {Q : AVal → Heap → Prop} (hx : X F_precentorref14_Turn_Stop [t_a0, epoch_a1] = none) (q : Tells (fun m => S_precentorref14_Turn_Stop Try.prog (acallX Try.prog X m) m t_a0 epoch_a1 h) Q) :
    Tells (fun m => acallX Try.prog X m F_precentorref14_Turn_Stop [t_a0, epoch_a1] h) Q :=
  Tells.later (q.le fun m => (E_precentorref14_Turn_Stop (acallX Try.prog X m) m t_a0 epoch_a1 h) ▸ acallX_le Try.func16 hx m h)

/-! ### (*precentor/precentorref14.Turn).Quiet -/
def J_precentorref14_Turn_Quiet_0 (P : Program) (call : FuncId → List AVal → Heap → Res AVal) (fuel : Nat) (k : Kn (AVal)) (t : T) (h : Heap) : Res (AVal) :=
arb (.val (t 0) h) call fun v_2 h3 =>
arb (.val (t 0) h3) call fun v_4 h5 =>
arb (nckR v_4 h5) call fun v_6 h7 =>
arb (.of (fadR 5 v_6) h7) call fun v_8 h9 =>
arb (.of (ld1 h9 v_8) h9) call fun v_10 h11 =>
arb (.val (t 1) h11) call fun v_12 h13 =>
arb (.call F_precentorref9_Put [v_10, v_12] h13) call fun v_14 h15 =>
arb (nckR v_2 h15) call fun v_16 h17 =>
arb (.of (fadR 5 v_16) h17) call fun v_18 h19 =>
arb (stR 1 h19 v_18 v_14) call fun v_20 h21 =>
arb (.val (.bool true) h21) call fun v_22 h23 =>
k .ret (upd (upd (upd (upd (upd (upd (upd (upd (upd (upd t 42 v_2) 43 v_4) 44 v_6) 45 v_8) 46 v_10) 47 v_12) 48 v_14) 49 v_16) 50 v_18) 6 v_22) h23

def S_precentorref14_Turn_Quiet (P : Program) (call : FuncId → List AVal → Heap → Res AVal) (fuel : Nat) (t_a0 kid_a1 epoch_a2 : AVal) (h : Heap) : Res AVal :=
lt (retK P [.tmp 6]) fun k =>
arb (.val (.bool false) h) call fun v_0 h1 =>
lt (sqK (J_precentorref14_Turn_Quiet_0 P call fuel k) k) fun k24 =>
obv (.val t_a0 h1) fun v_25 =>
obv (nckR v_25 h1) fun v_27 =>
obv (.of (fadR 3 v_27) h1) fun v_29 =>
obv (.of (ld1 h1 v_29) h1) fun v_31 => ifb true <|
obv (.of (aUn P .not v_31) h1) fun v_33 =>
obv (.val v_33 h1) fun v_35 =>
gdr (wantB v_35 false) (fun c => obv (.val epoch_a2 h1) fun v_37 =>
c true v_37 h1) h1 fun w39 v_37 h39 =>
gdr (wantB v_35 false) (fun c => obv (.val t_a0 h39) fun v_40 =>
c true v_40 h39) h39 fun w42 v_40 h42 =>
gdr (wantB v_35 false) (fun c => obv (nckR v_40 h42) fun v_43 =>
c true v_43 h42) h42 fun w45 v_43 h45 =>
gdr (wantB v_35 false) (fun c => obv (.of (fadR 2 v_43) h45) fun v_46 =>
c true v_46 h45) h45 fun w48 v_46 h48 =>
gdr (wantB v_35 false) (fun c => obv (.of (ld1 h48 v_46) h48) fun v_49 => ifb true <|
c true v_49 h48) h48 fun w51 v_49 h51 =>
gdr (wantB v_35 false) (fun c => obv (.of (aBin P .neq 3 (.tmp 13) (.tmp 17) v_37 v_49) h51) fun v_52 =>
c true v_52 h51) h51 fun w54 v_52 h54 =>
obv (pkR v_35 (.bool true) v_52 h54) fun v_55 =>
obv (.val v_55 h54) fun v_57 =>
gdr (wantB v_57 false) (fun c => obv (.val t_a0 h54) fun v_59 =>
c true v_59 h54) h54 fun w61 v_59 h61 =>
gdr (wantB v_57 false) (fun c => obv (nckR v_59 h61) fun v_62 =>
c true v_62 h61) h61 fun w64 v_62 h64 =>
gdr (wantB v_57 false) (fun c => obv (.of (fadR 0 v_62) h64) fun v_65 =>
c true v_65 h64) h64 fun w67 v_65 h67 =>
gdr (wantB v_57 false) (fun c => obv (.of (ld1 h67 v_65) h67) fun v_68 => ifb true <|
c true v_68 h67) h67 fun w70 v_68 h70 =>
gdr (wantB v_57 false) (fun c => obv (.val t_a0 h70) fun v_71 =>
c true v_71 h70) h70 fun w73 v_71 h73 =>
gdr (wantB v_57 false) (fun c => obv (nckR v_71 h73) fun v_74 =>
c true v_74 h73) h73 fun w76 v_74 h76 =>
gdr (wantB v_57 false) (fun c => obv (.of (fadR 1 v_74) h76) fun v_77 =>
c true v_77 h76) h76 fun w79 v_77 h79 =>
gdr (wantB v_57 false) (fun c => obv (.of (ld1 h79 v_77) h79) fun v_80 => ifb true <|
c true v_80 h79) h79 fun w82 v_80 h82 =>
gdr (wantB v_57 false) (fun c => arbE (.call F_precentorref9_Kids [v_68, v_80] h82) call fun v_83 h84 => lt h84 fun g84 => ifb (true && true) <|
c true v_83 g84) h82 fun w85 v_83 h85 =>
gdr (wantB v_57 false) (fun c => obv (.val kid_a1 h85) fun v_86 =>
c true v_86 h85) h85 fun w88 v_86 h88 =>
gdr (wantB v_57 false) (fun c => arbE (.call F_precentorref9_In [v_83, v_86] h88) call fun v_89 h90 => lt h90 fun g90 => ifb (true && true) <|
c true v_89 g90) h88 fun w91 v_89 h91 =>
gdr (wantB v_57 false) (fun c => obv (.of (aUn P .not v_89) h91) fun v_92 =>
c true v_92 h91) h91 fun w94 v_92 h94 =>
obv (pkR v_57 (.bool true) v_92 h94) fun v_95 =>
obv (.val v_95 h94) fun v_97 =>
gdr (wantB v_97 false) (fun c => obv (.val t_a0 h94) fun v_99 =>
c true v_99 h94) h94 fun w101 v_99 h101 =>
gdr (wantB v_97 false) (fun c => obv (nckR v_99 h101) fun v_102 =>
c true v_102 h101) h101 fun w104 v_102 h104 =>
gdr (wantB v_97 false) (fun c => obv (.of (fadR 5 v_102) h104) fun v_105 =>
c true v_105 h104) h104 fun w107 v_105 h107 =>
gdr (wantB v_97 false) (fun c => obv (.of (ld1 h107 v_105) h107) fun v_108 => ifb true <|
c true v_108 h107) h107 fun w110 v_108 h110 =>
gdr (wantB v_97 false) (fun c => obv (.val kid_a1 h110) fun v_111 =>
c true v_111 h110) h110 fun w113 v_111 h113 =>
gdr (wantB v_97 false) (fun c => arbE (.call F_precentorref9_In [v_108, v_111] h113) call fun v_114 h115 => lt h115 fun g115 => ifb (true && true) <|
c true v_114 g115) h113 fun w116 v_114 h116 =>
obv (pkR v_97 (.bool true) v_114 h116) fun v_117 =>
cb v_117 (
arb (.val (.bool false) h116) call fun v_119 h120 =>
k24 .ret (upd (upd (upd (upd (upd (upd (upd (upd (upd (upd (upd (upd (upd (upd (upd (upd (upd (upd (upd (upd (upd (upd (upd (upd (upd (upd (upd (upd (upd (upd (upd (upd (upd (upd (upd (upd (upd (enterT [t_a0, kid_a1, epoch_a2]) 6 v_0) 7 v_25) 8 v_27) 9 v_29) 10 v_31) 11 v_33) 12 v_35) 13 v_37) 14 v_40) 15 v_43) 16 v_46) 17 v_49) 18 v_52) 19 v_55) 20 v_57) 21 v_59) 22 v_62) 23 v_65) 24 v_68) 25 v_71) 26 v_74) 27 v_77) 28 v_80) 29 v_83) 30 v_86) 31 v_89) 32 v_92) 33 v_95) 34 v_97) 35 v_99) 36 v_102) 37 v_105) 38 v_108) 39 v_111) 40 v_114) 41 v_117) 6 v_119) h120) (
k24 .normal (upd (upd (upd (upd (upd (upd (upd (upd (upd (upd (upd (upd (upd (upd (upd (upd (upd (upd (upd (upd (upd (upd (upd (upd (upd (upd (upd (upd (upd (upd (upd (upd (upd (upd (upd (upd (enterT [t_a0, kid_a1, epoch_a2]) 6 v_0) 7 v_25) 8 v_27) 9 v_29) 10 v_31) 11 v_33) 12 v_35) 13 v_37) 14 v_40) 15 v_43) 16 v_46) 17 v_49) 18 v_52) 19 v_55) 20 v_57) 21 v_59) 22 v_62) 23 v_65) 24 v_68) 25 v_71) 26 v_74) 27 v_77) 28 v_80) 29 v_83) 30 v_86) 31 v_89) 32 v_92) 33 v_95) 34 v_97) 35 v_99) 36 v_102) 37 v_105) 38 v_108) 39 v_111) 40 v_114) 41 v_117) h116)
theorem E_precentorref14_Turn_Quiet (call : FuncId → List AVal → Heap → Res AVal) (fuel : Nat) (t_a0 kid_a1 epoch_a2 : AVal) (h : Heap) : bodyR Try.prog call fuel Try.f18 [t_a0, kid_a1, epoch_a2] h = S_precentorref14_Turn_Quiet Try.prog call fuel t_a0 kid_a1 epoch_a2 h := by kernel_rfl
theorem R_precentorref14_Turn_Quiet {X : XTab} (t_a0 kid_a1 epoch_a2 : AVal) {h : Heap} {Q : AVal → Heap → Prop} (hx : X F_precentorref14_Turn_Quiet [t_a0, kid_a1, epoch_a2] = none) (q : Tells (fun m => S_precentorref14_Turn_Quiet Try.prog (acallX Try.prog X m) m t_a0 kid_a1 epoch_a2 h) Q) :
    Tells (fun m => acallX Try.prog X m F_precentorref14_Turn_Quiet [t_a0, kid_a1, epoch_a2] h) Q :=
  Tells.later (q.le fun m => (E_precentorref14_Turn_Quiet (acallX Try.prog X m) m t_a0 kid_a1 epoch_a2 h) ▸ acallX_le Try.func18 hx m h)

/-! ### (*precentor/precentorref14.Turn).IsReady -/
def J_precentorref14_Turn_IsReady_0 (P : Program) (call : FuncId → List AVal → Heap → Res AVal) (fuel : Nat) (k : Kn (AVal)) (t : T) (h : Heap) : Res (AVal) :=
arb (.val (t 0) h) call fun v_2 h3 =>
arb (nckR v_2 h3) call fun v_4 h5 =>
arb (.of (fadR 4 v_4) h5) call fun v_6 h7 =>
arb (stR 1 h7 v_6 (.bool true)) call fun v_8 h9 =>
arb (.val (.bool true) h9) call fun v_10 h11 =>
k .ret (upd (upd (upd (upd t 37 v_2) 38 v_4) 39 v_6) 4 v_10) h11

def S_precentorref14_Turn_IsReady (P : Program) (call : FuncId → List AVal → Heap → Res AVal) (fuel : Nat) (t_a0 live_a1 : AVal) (h : Heap) : Res AVal :=
lt (retK P [.tmp 4]) fun k =>
arb (.val (.bool false) h) call fun v_0 h1 =>
lt (sqK (J_precentorref14_Turn_IsReady_0 P call fuel k) k) fun k12 =>
obv (.val t_a0 h1) fun v_13 =>
obv (nckR v_13 h1) fun v_15 =>
obv (.of (fadR 3 v_15) h1) fun v_17 =>
obv (.of (ld1 h1 v_17) h1) fun v_19 => ifb true <|
obv (.of (aUn P .not v_19) h1) fun v_21 =>
obv (.val v_21 h1) fun v_23 =>
gdr (wantB v_23 false) (fun c => obv (.val live_a1 h1) fun v_25 =>
c true v_25 h1) h1 fun w27 v_25 h27 =>
obv (pkR v_23 (.bool true) v_25 h27) fun v_28 =>
obv (.val v_28 h27) fun v_30 =>
gdr (wantB v_30 false) (fun c => obv (.val t_a0 h27) fun v_32 =>
c true v_32 h27) h27 fun w34 v_32 h34 =>
gdr (wantB v_30 false) (fun c => obv (nckR v_32 h34) fun v_35 =>
c true v_35 h34) h34 fun w37 v_35 h37 =>
gdr (wantB v_30 false) (fun c => obv (.of (fadR 4 v_35) h37) fun v_38 =>
c true v_38 h37) h37 fun w40 v_38 h40 =>
gdr (wantB v_30 false) (fun c => obv (.of (ld1 h40 v_38) h40) fun v_41 => ifb true <|
c true v_41 h40) h40 fun w43 v_41 h43 =>
obv (pkR v_30 (.bool true) v_41 h43) fun v_44 =>
obv (.val v_44 h43) fun v_46 =>
gdr (wantB v_46 false) (fun c => obv (.val t_a0 h43) fun v_48 =>
c true v_48 h43) h43 fun w50 v_48 h50 =>
gdr (wantB v_46 false) (fun c => obv (nckR v_48 h50) fun v_51 =>
c true v_51 h50) h50 fun w53 v_51 h53 =>
gdr (wantB v_46 false) (fun c => obv (.of (fadR 5 v_51) h53) fun v_54 =>
c true v_54 h53) h53 fun w56 v_54 h56 =>
gdr (wantB v_46 false) (fun c => obv (.of (ld1 h56 v_54) h56) fun v_57 => ifb true <|
c true v_57 h56) h56 fun w59 v_57 h59 =>
gdr (wantB v_46 false) (fun c => obv (.of (lenL v_57) h59) fun v_60 =>
c true v_60 h59) h59 fun w62 v_60 h62 =>
gdr (wantB v_46 false) (fun c => obv (.val t_a0 h62) fun v_63 =>
c true v_63 h62) h62 fun w65 v_63 h65 =>
gdr (wantB v_46 false) (fun c => obv (nckR v_63 h65) fun v_66 =>
c true v_66 h65) h65 fun w68 v_66 h68 =>
gdr (wantB v_46 false) (fun c => obv (.of (fadR 0 v_66) h68) fun v_69 =>
c true v_69 h68) h68 fun w71 v_69 h71 =>
gdr (wantB v_46 false) (fun c => obv (.of (ld1 h71 v_69) h71) fun v_72 => ifb true <|
c true v_72 h71) h71 fun w74 v_72 h74 =>
gdr (wantB v_46 false) (fun c => obv (.val t_a0 h74) fun v_75 =>
c true v_75 h74) h74 fun w77 v_75 h77 =>
gdr (wantB v_46 false) (fun c => obv (nckR v_75 h77) fun v_78 =>
c true v_78 h77) h77 fun w80 v_78 h80 =>
gdr (wantB v_46 false) (fun c => obv (.of (fadR 1 v_78) h80) fun v_81 =>
c true v_81 h80) h80 fun w83 v_81 h83 =>
gdr (wantB v_46 false) (fun c => obv (.of (ld1 h83 v_81) h83) fun v_84 => ifb true <|
c true v_84 h83) h83 fun w86 v_84 h86 =>
gdr (wantB v_46 false) (fun c => arbE (.call F_precentorref9_Kids [v_72, v_84] h86) call fun v_87 h88 => lt h88 fun g88 => ifb (true && ((!w59 || isV v_57 (arVal (.of (ld1 g88 v_54) g88))) && true)) <|
c true v_87 g88) h86 fun w89 v_87 h89 =>
gdr (wantB v_46 false) (fun c => obv (.of (lenL v_87) h89) fun v_90 =>
c true v_90 h89) h89 fun w92 v_90 h92 =>
gdr (wantB v_46 false) (fun c => obv (.of (aBin P .lss 3 (.tmp 24) (.tmp 34) v_60 v_90) h92) fun v_93 =>
c true v_93 h92) h92 fun w95 v_93 h95 =>
obv (pkR v_46 (.bool true) v_93 h95) fun v_96 =>
cb v_96 (
arb (.val (.bool false) h95) call fun v_98 h99 =>
k12 .ret (upd (upd (upd (upd (upd (upd (upd (upd (upd (upd (upd (upd (upd (upd (upd (upd (upd (upd (upd (upd (upd (upd (upd (upd (upd (upd (upd (upd (upd (upd (upd (upd (upd (upd (enterT [t_a0, live_a1]) 4 v_0) 5 v_13) 6 v_15) 7 v_17) 8 v_19) 9 v_21) 10 v_23) 11 v_25) 12 v_28) 13 v_30) 14 v_32) 15 v_35) 16 v_38) 17 v_41) 18 v_44) 19 v_46) 20 v_48) 21 v_51) 22 v_54) 23 v_57) 24 v_60) 25 v_63) 26 v_66) 27 v_69) 28 v_72) 29 v_75) 30 v_78) 31 v_81) 32 v_84) 33 v_87) 34 v_90) 35 v_93) 36 v_96) 4 v_98) h99) (
k12 .normal (upd (upd (upd (upd (upd (upd (upd (upd (upd (upd (upd (upd (upd (upd (upd (upd (upd (upd (upd (upd (upd (upd (upd (upd (upd (upd (upd (upd (upd (upd (upd (upd (upd (enterT [t_a0, live_a1]) 4 v_0) 5 v_13) 6 v_15) 7 v_17) 8 v_19) 9 v_21) 10 v_23) 11 v_25) 12 v_28) 13 v_30) 14 v_32) 15 v_35) 16 v_38) 17 v_41) 18 v_44) 19 v_46) 20 v_48) 21 v_51) 22 v_54) 23 v_57) 24 v_60) 25 v_63) 26 v_66) 27 v_69) 28 v_72) 29 v_75) 30 v_78) 31 v_81) 32 v_84) 33 v_87) 34 v_90) 35 v_93) 36 v_96) h95)
theorem E_precentorref14_Turn_IsReady (call : FuncId → List AVal → Heap → Res AVal) (fuel : Nat) (t_a0 live_a1 : AVal) (h : Heap) : bodyR Try.prog call fuel Try.f20 [t_a0, live_a1] h = S_precentorref14_Turn_IsReady Try.prog call fuel t_a0 live_a1 h := by kernel_rfl
theorem R_precentorref14_Turn_IsReady {X : XTab} (t_a0 live_a1 : AVal) {h : Heap} {Q : AVal → Heap → Prop} (hx : X F_precentorref14_Turn_IsReady [t_a0, live_a1] = none) (q : Tells (fun m => S_precentorref14_Turn_IsReady Try.prog (acallX Try.prog X m) m t_a0 live_a1 h) Q) :
    Tells (fun m => acallX Try.prog X m F_precentorref14_Turn_IsReady [t_a0, live_a1] h) Q :=
  Tells.later (q.le fun m => (E_precentorref14_Turn_IsReady (acallX Try.prog X m) m t_a0 live_a1 h) ▸ acallX_le Try.func20 hx m h)

/-! ### (*precentor/precentorref14.Turn).Open -/
def J_precentorref14_Turn_Open_0 (P : Program) (call : FuncId → List AVal → Heap → Res AVal) (fuel : Nat) (k : Kn (AVal)) (t : T) (h : Heap) : Res (AVal) :=
arb (.val (t 0) h) call fun v_4 h5 =>
arb (nckR v_4 h5) call fun v_6 h7 =>
arb (.of (fadR 6 v_6) h7) call fun v_8 h9 =>
arb (.of (ld1 h9 v_8) h9) call fun v_10 h11 =>
arb (.val v_10 h11) call fun l_12 h13 =>
arb (.val (t 0) h13) call fun v_14 h15 =>
arb (.val (t 0) h15) call fun v_16 h17 =>
arb (.val (t 0) h17) call fun v_18 h19 =>
arb (.val (t 0) h19) call fun v_20 h21 =>
arb (.val (t 0) h21) call fun v_22 h23 =>
arb (.val (t 1) h23) call fun v_24 h25 =>
arb (nckR v_14 h25) call fun v_26 h27 =>
arb (.of (fadR 2 v_26) h27) call fun v_28 h29 =>
arb (stR 1 h29 v_28 v_24) call fun v_30 h31 =>
arb (nckR v_16 h31) call fun v_32 h33 =>
arb (.of (fadR 3 v_32) h33) call fun v_34 h35 =>
arb (stR 1 h35 v_34 (.bool false)) call fun v_36 h37 =>
arb (nckR v_18 h37) call fun v_38 h39 =>
arb (.of (fadR 4 v_38) h39) call fun v_40 h41 =>
arb (stR 1 h41 v_40 (.bool false)) call fun v_42 h43 =>
arb (nckR v_20 h43) call fun v_44 h45 =>
arb (.of (fadR 5 v_44) h45) call fun v_46 h47 =>
arb (stR 1 h47 v_46 .nils) call fun v_48 h49 =>
arb (nckR v_22 h49) call fun v_50 h51 =>
arb (.of (fadR 6 v_50) h51) call fun v_52 h53 =>
arb (stR 1 h53 v_52 .nils) call fun v_54 h55 =>
arb (.val l_12 h55) call fun v_56 h57 =>
arb (.val v_56 h57) call fun v_58 h59 =>
arb (.val (.bool true) h59) call fun v_60 h61 =>
k .ret (upd (upd (upd (upd (upd (upd (upd (upd (upd (upd (upd (upd (upd (upd (upd (upd (upd (upd (upd (upd (upd (upd (upd (upd t 21 v_4) 22 v_6) 23 v_8) 24 v_10) 6 l_12) 25 v_14) 26 v_16) 27 v_18) 28 v_20) 29 v_22) 30 v_24) 31 v_26) 32 v_28) 33 v_32) 34 v_34) 35 v_38) 36 v_40) 37 v_44) 38 v_46) 39 v_50) 40 v_52) 41 v_56) 4 v_58) 5 v_60) h61

def S_precentorref14_Turn_Open (P : Program) (call : FuncId → List AVal → Heap → Res AVal) (fuel : Nat) (t_a0 epoch_a1 : AVal) (h : Heap) : Res AVal :=
lt (retK P [.tmp 4, .tmp 5]) fun k =>
arb (.val .nils h) call fun v_0 h1 =>
arb (.val (.bool false) h1) call fun v_2 h3 =>
lt (sqK (J_precentorref14_Turn_Open_0 P call fuel k) k) fun k62 =>
arb (.val t_a0 h3) call fun v_63 h64 =>
arb (nckR v_63 h64) call fun v_65 h66 =>
arb (.of (fadR 3 v_65) h66) call fun v_67 h68 =>
arb (.of (ld1 h68 v_67) h68) call fun v_69 h70 =>
arb (.of (aUn P .not v_69) h70) call fun v_71 h72 =>
arb (.val v_71 h72) call fun v_73 h74 =>
gd (wantB v_73 false) (fun c => arb (.val epoch_a1 h74) call c) h74 fun v_75 h76 =>
gd (wantB v_73 false) (fun c => arb (.of (aBin P .sub 3 (.tmp 13) (.const (.int .i64 1)) v_75 (.int .i64 1)) h76) call c) h76 fun v_77 h78 =>
gd (wantB v_73 false) (fun c => arb (.val t_a0 h78) call c) h78 fun v_79 h80 =>
gd (wantB v_73 false) (fun c => arb (nckR v_79 h80) call c) h80 fun v_81 h82 =>
gd (wantB v_73 false) (fun c => arb (.of (fadR 2 v_81) h82) call c) h82 fun v_83 h84 =>
gd (wantB v_73 false) (fun c => arb (.of (ld1 h84 v_83) h84) call c) h84 fun v_85 h86 =>
gd (wantB v_73 false) (fun c => arb (.of (aBin P .neq 3 (.tmp 14) (.tmp 18) v_77 v_85) h86) call c) h86 fun v_87 h88 =>
arb (pkR v_73 (.bool true) v_87 h88) call fun v_89 h90 =>
cb v_89 (
arb (.val .nils h90) call fun v_91 h92 =>
arb (.val (.bool false) h92) call fun v_93 h94 =>
k62 .ret (upd (upd (upd (upd (upd (upd (upd (upd (upd (upd (upd (upd (upd (upd (upd (upd (upd (upd (enterT [t_a0, epoch_a1]) 4 v_0) 5 v_2) 7 v_63) 8 v_65) 9 v_67) 10 v_69) 11 v_71) 12 v_73) 13 v_75) 14 v_77) 15 v_79) 16 v_81) 17 v_83) 18 v_85) 19 v_87) 20 v_89) 4 v_91) 5 v_93) h94) (
k62 .normal (upd (upd (upd (upd (upd (upd (upd (upd (upd (upd (upd (upd (upd (upd (upd (upd (enterT [t_a0, epoch_a1]) 4 v_0) 5 v_2) 7 v_63) 8 v_65) 9 v_67) 10 v_69) 11 v_71) 12 v_73) 13 v_75) 14 v_77) 15 v_79) 16 v_81) 17 v_83) 18 v_85) 19 v_87) 20 v_89) h90)
theorem E_precentorref14_Turn_Open (call : FuncId → List AVal → Heap → Res AVal) (fuel : Nat) (t_a0 epoch_a1 : AVal) (h : Heap) : bodyR Try.prog call fuel Try.f22 [t_a0, epoch_a1] h = S_precentorref14_Turn_Open Try.prog call fuel t_a0 epoch_a1 h := by kernel_rfl
theorem R_precentorref14_Turn_Open {X : XTab} (t_a0 epoch_a1 : AVal) {h : Heap} {Q : AVal → Heap → Prop} (hx : X F_precentorref14_Turn_Open [t_a0, epoch_a1] = none) (q : Tells (fun m => S_precentorref14_Turn_Open Try.prog (acallX Try.prog X m) m t_a0 epoch_a1 h) Q) :
    Tells (fun m => acallX Try.prog X m F_precentorref14_Turn_Open [t_a0, epoch_a1] h) Q :=
  Tells.later (q.le fun m => (E_precentorref14_Turn_Open (acallX Try.prog X m) m t_a0 epoch_a1 h) ▸ acallX_le Try.func22 hx m h)


end Go.Proofs.Ytebkohdmoaginaa
