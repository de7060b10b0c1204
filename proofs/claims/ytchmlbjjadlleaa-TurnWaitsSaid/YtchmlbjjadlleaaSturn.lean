/-
  Functions of turn in the form of YtchmlbjjadlleaaABS (printed by a program of ours, gen.lean).
-/
import Derived.Test.YtchmlbjjadlleaaSIds
set_option linter.unusedVariables false
namespace Go.Proofs.Ytchmlbjjadlleaa
open Go.Ab
/-! ### precentor/turn.New -/
def J_turn_New_0 (P : Program) (call : FuncId → List AVal → Heap → Res AVal) (fuel : Nat) (k : Kn (AVal)) (t : T) (h : Heap) : Res (AVal) :=
arb (.val (t 0) h) call fun v_4 h5 =>
arb (.val (t 1) h5) call fun v_6 h7 =>
arb (.call F_tree_Kids [v_4, v_6] h7) call fun v_8 h9 =>
arb (.val v_8 h9) call fun kids_10 h11 =>
arb (.val (t 1) h11) call fun v_12 h13 =>
arb (.of (aBin P .eql 3 (.tmp 23) (.const (.int .i64 0)) v_12 (.int .i64 0)) h13) call fun v_14 h15 =>
arb (.val kids_10 h15) call fun v_16 h17 =>
arb (.val kids_10 h17) call fun v_18 h19 =>
arb (.of (lenL v_18) h19) call fun v_20 h21 =>
arb (makR 1 1 [(.bool false)] h21 v_20 v_20) call fun v_22 h23 =>
arb (.of (bldR [(.bool false), .nils, .nils, (.int .i64 0), (.bool false), (.bool false), .nils] [(0, 1, v_14), (1, 1, v_16), (2, 1, v_22)]) h23) call fun v_24 h25 =>
arb (boxR v_24 h25) call fun v_26 h27 =>
arb (.val v_26 h27) call fun v_28 h29 =>
arb (.val (.int .i64 0) h29) call fun v_30 h31 =>
k .ret (upd (upd (upd (upd (upd (upd (upd (upd (upd (upd (upd (upd (upd (upd t 20 v_4) 21 v_6) 22 v_8) 6 kids_10) 23 v_12) 24 v_14) 25 v_16) 26 v_18) 27 v_20) 28 v_22) 29 v_24) 30 v_26) 4 v_28) 5 v_30) h31

def S_turn_New (P : Program) (call : FuncId → List AVal → Heap → Res AVal) (fuel : Nat) (p_a0 b_a1 : AVal) (h : Heap) : Res AVal :=
lt (retK P [.tmp 4, .tmp 5]) fun k =>
arb (.val .nilp h) call fun v_0 h1 =>
arb (.val (.int .i64 0) h1) call fun v_2 h3 =>
lt (sqK (J_turn_New_0 P call fuel k) k) fun k32 =>
lt (blkK 0 k32) fun k33 =>
arb (.val p_a0 h3) call fun v_34 h35 =>
arb (.call F_tree_Right [v_34] h35) call fun v_36 h37 =>
arb (.of (aUn P .not v_36) h37) call fun v_38 h39 =>
arb (.val v_38 h39) call fun v_40 h41 =>
cb v_40 (
arb (.val .nilp h41) call fun v_42 h43 =>
arb (.val (.int .i64 3) h43) call fun v_44 h45 =>
k33 .ret (upd (upd (upd (upd (upd (upd (upd (upd (enterT [p_a0, b_a1]) 4 v_0) 5 v_2) 8 v_34) 9 v_36) 10 v_38) 7 v_40) 4 v_42) 5 v_44) h45) (
arb (.val b_a1 h41) call fun v_46 h47 =>
arb (.of (aBin P .lss 3 (.tmp 12) (.const (.int .i64 0)) v_46 (.int .i64 0)) h47) call fun v_48 h49 =>
arb (.val v_48 h49) call fun v_50 h51 =>
gd (wantB v_50 false) (fun c => arb (.val b_a1 h51) call c) h51 fun v_52 h53 =>
gd (wantB v_50 false) (fun c => arb (.val p_a0 h53) call c) h53 fun v_54 h55 =>
gd (wantB v_50 false) (fun c => arb (.of (lenL v_54) h55) call c) h55 fun v_56 h57 =>
gd (wantB v_50 false) (fun c => arb (.of (aBin P .gtr 3 (.tmp 15) (.tmp 17) v_52 v_56) h57) call c) h57 fun v_58 h59 =>
arb (pkR v_50 (.bool true) v_58 h59) call fun v_60 h61 =>
arb (.val v_60 h61) call fun v_62 h63 =>
cb v_62 (
arb (.val .nilp h63) call fun v_64 h65 =>
arb (.val (.int .i64 4) h65) call fun v_66 h67 =>
k33 .ret (upd (upd (upd (upd (upd (upd (upd (upd (upd (upd (upd (upd (upd (upd (upd (upd (upd (enterT [p_a0, b_a1]) 4 v_0) 5 v_2) 8 v_34) 9 v_36) 10 v_38) 7 v_40) 12 v_46) 13 v_48) 14 v_50) 15 v_52) 16 v_54) 17 v_56) 18 v_58) 19 v_60) 11 v_62) 4 v_64) 5 v_66) h67) (
k33 .normal (upd (upd (upd (upd (upd (upd (upd (upd (upd (upd (upd (upd (upd (upd (upd (enterT [p_a0, b_a1]) 4 v_0) 5 v_2) 8 v_34) 9 v_36) 10 v_38) 7 v_40) 12 v_46) 13 v_48) 14 v_50) 15 v_52) 16 v_54) 17 v_56) 18 v_58) 19 v_60) 11 v_62) h63))
theorem E_turn_New (call : FuncId → List AVal → Heap → Res AVal) (fuel : Nat) (p_a0 b_a1 : AVal) (h : Heap) : bodyR Try.prog call fuel Try.f7 [p_a0, b_a1] h = S_turn_New Try.prog call fuel p_a0 b_a1 h := by kernel_rfl
theorem R_turn_New {X : XTab} (p_a0 b_a1 : AVal) {h : Heap} {Q : AVal → Heap → Prop} (hx : X F_turn_New [p_a0, b_a1] = none) (q : Tells (fun m => S_turn_New Try.prog (acallX Try.prog X m) m p_a0 b_a1 h) Q) :
    Tells (fun m => acallX Try.prog X m F_turn_New [p_a0, b_a1] h) Q :=
  Tells.later (q.le fun m => (E_turn_New (acallX Try.prog X m) m p_a0 b_a1 h) ▸ acallX_le Try.func7 hx m h)

/-! ### (*precentor/turn.Turn).Begin -/
def J_turn_Turn_Begin_0 (P : Program) (call : FuncId → List AVal → Heap → Res AVal) (fuel : Nat) (k : Kn (AVal)) (t : T) (h : Heap) : Res (AVal) :=
arb (.val (t 0) h) call fun v_2 h3 =>
arb (nckR v_2 h3) call fun v_4 h5 =>
arb (.of (fadR 4 v_4) h5) call fun v_6 h7 =>
arb (stR 1 h7 v_6 (.bool true)) call fun v_8 h9 =>
arb (.val (.bool true) h9) call fun v_10 h11 =>
k .ret (upd (upd (upd (upd t 22 v_2) 23 v_4) 24 v_6) 2 v_10) h11

def S_turn_Turn_Begin (P : Program) (call : FuncId → List AVal → Heap → Res AVal) (fuel : Nat) (t_a0 : AVal) (h : Heap) : Res AVal :=
lt (retK P [.tmp 2]) fun k =>
arb (.val (.bool false) h) call fun v_0 h1 =>
lt (sqK (J_turn_Turn_Begin_0 P call fuel k) k) fun k12 =>
arb (.val t_a0 h1) call fun v_13 h14 =>
arb (nckR v_13 h14) call fun v_15 h16 =>
arb (.of (fadR 0 v_15) h16) call fun v_17 h18 =>
arb (.of (ld1 h18 v_17) h18) call fun v_19 h20 =>
arb (.of (aUn P .not v_19) h20) call fun v_21 h22 =>
arb (.val v_21 h22) call fun v_23 h24 =>
gd (wantB v_23 false) (fun c => arb (.val t_a0 h24) call c) h24 fun v_25 h26 =>
gd (wantB v_23 false) (fun c => arb (nckR v_25 h26) call c) h26 fun v_27 h28 =>
gd (wantB v_23 false) (fun c => arb (.of (fadR 4 v_27) h28) call c) h28 fun v_29 h30 =>
gd (wantB v_23 false) (fun c => arb (.of (ld1 h30 v_29) h30) call c) h30 fun v_31 h32 =>
arb (pkR v_23 (.bool true) v_31 h32) call fun v_33 h34 =>
arb (.val v_33 h34) call fun v_35 h36 =>
gd (wantB v_35 false) (fun c => arb (.val t_a0 h36) call c) h36 fun v_37 h38 =>
gd (wantB v_35 false) (fun c => arb (nckR v_37 h38) call c) h38 fun v_39 h40 =>
gd (wantB v_35 false) (fun c => arb (.of (fadR 6 v_39) h40) call c) h40 fun v_41 h42 =>
gd (wantB v_35 false) (fun c => arb (.of (ld1 h42 v_41) h42) call c) h42 fun v_43 h44 =>
gd (wantB v_35 false) (fun c => arb (.of (lenL v_43) h44) call c) h44 fun v_45 h46 =>
gd (wantB v_35 false) (fun c => arb (.of (aBin P .eql 3 (.tmp 19) (.const (.int .i64 0)) v_45 (.int .i64 0)) h46) call c) h46 fun v_47 h48 =>
arb (pkR v_35 (.bool true) v_47 h48) call fun v_49 h50 =>
cb v_49 (
arb (.val (.bool false) h50) call fun v_51 h52 =>
k12 .ret (upd (upd (upd (upd (upd (upd (upd (upd (upd (upd (upd (upd (upd (upd (upd (upd (upd (upd (upd (upd (upd (enterT [t_a0]) 2 v_0) 3 v_13) 4 v_15) 5 v_17) 6 v_19) 7 v_21) 8 v_23) 9 v_25) 10 v_27) 11 v_29) 12 v_31) 13 v_33) 14 v_35) 15 v_37) 16 v_39) 17 v_41) 18 v_43) 19 v_45) 20 v_47) 21 v_49) 2 v_51) h52) (
k12 .normal (upd (upd (upd (upd (upd (upd (upd (upd (upd (upd (upd (upd (upd (upd (upd (upd (upd (upd (upd (upd (enterT [t_a0]) 2 v_0) 3 v_13) 4 v_15) 5 v_17) 6 v_19) 7 v_21) 8 v_23) 9 v_25) 10 v_27) 11 v_29) 12 v_31) 13 v_33) 14 v_35) 15 v_37) 16 v_39) 17 v_41) 18 v_43) 19 v_45) 20 v_47) 21 v_49) h50)
theorem E_turn_Turn_Begin (call : FuncId → List AVal → Heap → Res AVal) (fuel : Nat) (t_a0 : AVal) (h : Heap) : bodyR Try.prog call fuel Try.f8 [t_a0] h = S_turn_Turn_Begin Try.prog call fuel t_a0 h := by kernel_rfl
theorem R_turn_Turn_Begin {X : XTab} (t_a0 : AVal) {h : Heap} {Q : AVal → Heap → Prop} (hx : X F_turn_Turn_Begin [t_a0] = none) (q : Tells (fun m => S_turn_Turn_Begin Try.prog (acallX Try.prog X m) m t_a0 h) Q) :
    Tells (fun m => acallX Try.prog X m F_turn_Turn_Begin [t_a0] h) Q :=
  Tells.later (q.le fun m => (E_turn_Turn_Begin (acallX Try.prog X m) m t_a0 h) ▸ acallX_le Try.func8 hx m h)

/-! ### (*precentor/turn.Turn).Add -/
def J_turn_Turn_Add_0 (P : Program) (call : FuncId → List AVal → Heap → Res AVal) (fuel : Nat) (k : Kn (AVal)) (t : T) (h : Heap) : Res (AVal) :=
arb (.val (t 0) h) call fun v_4 h5 =>
arb (nckR v_4 h5) call fun v_6 h7 =>
arb (.of (fadR 0 v_6) h7) call fun v_8 h9 =>
arb (.of (ld1 h9 v_8) h9) call fun v_10 h11 =>
arb (.val v_10 h11) call fun v_12 h13 =>
k .ret (upd (upd (upd (upd (upd t 20 v_4) 21 v_6) 22 v_8) 23 v_10) 4 v_12) h13

def S_turn_Turn_Add (P : Program) (call : FuncId → List AVal → Heap → Res AVal) (fuel : Nat) (t_a0 c_a1 : AVal) (h : Heap) : Res AVal :=
lt (retK P [.tmp 4]) fun k =>
arb (boxR c_a1 h) call fun c_0 h1 =>
arb (.val (.bool false) h1) call fun v_2 h3 =>
lt (sqK (J_turn_Turn_Add_0 P call fuel k) k) fun k14 =>
arb (.val t_a0 h3) call fun v_15 h16 =>
arb (nckR v_15 h16) call fun v_17 h18 =>
arb (.of (fadR 0 v_17) h18) call fun v_19 h20 =>
arb (.of (ld1 h20 v_19) h20) call fun v_21 h22 =>
cb v_21 (
obv (.val t_a0 h22) fun v_23 =>
obv (.val t_a0 h22) fun v_25 =>
obv (nckR v_25 h22) fun v_27 =>
obv (.of (fadR 6 v_27) h22) fun v_29 =>
obv (.of (ld1 h22 v_29) h22) fun v_31 => ifb true <|
obv (.of (ldn 5 h22 c_0) h22) fun v_33 => ifb true <|
arbE (.call F_turn_clone [v_33] h22) call fun v_35 h36 => lt h36 fun g36 => ifb (true && (isV v_31 (arVal (.of (ld1 g36 v_29) g36)) && true)) <|
arbV (bslR 5 [(.bool false), (.int .i64 0), (.int .i64 0), (.int .i64 0), .nils] 1 g36 [(0, 5, v_35)]) fun v_37 h38 =>
arbE (appR 5 56 h38 v_31 v_37) call fun v_39 h40 => lt h40 fun g40 => ifb (true && true) <|
obv (nckR v_23 g40) fun v_41 =>
obv (.of (fadR 6 v_41) g40) fun v_43 =>
arbE (stR 1 g40 v_43 v_39) call fun v_45 h46 => lt h46 fun g46 => ifb (true && true) <|
k14 .normal (upd (upd (upd (upd (upd (upd (upd (upd (upd (upd (upd (upd (upd (upd (upd (upd (upd (enterT [t_a0, c_a1]) 3 c_0) 4 v_2) 5 v_15) 6 v_17) 7 v_19) 8 v_21) 9 v_23) 10 v_25) 11 v_27) 12 v_29) 13 v_31) 14 v_33) 15 v_35) 16 v_37) 17 v_39) 18 v_41) 19 v_43) g46) (
k14 .normal (upd (upd (upd (upd (upd (upd (enterT [t_a0, c_a1]) 3 c_0) 4 v_2) 5 v_15) 6 v_17) 7 v_19) 8 v_21) h22)
theorem E_turn_Turn_Add (call : FuncId → List AVal → Heap → Res AVal) (fuel : Nat) (t_a0 c_a1 : AVal) (h : Heap) : bodyR Try.prog call fuel Try.f9 [t_a0, c_a1] h = S_turn_Turn_Add Try.prog call fuel t_a0 c_a1 h := by kernel_rfl
theorem R_turn_Turn_Add {X : XTab} (t_a0 c_a1 : AVal) {h : Heap} {Q : AVal → Heap → Prop} (hx : X F_turn_Turn_Add [t_a0, c_a1] = none) (q : Tells (fun m => S_turn_Turn_Add Try.prog (acallX Try.prog X m) m t_a0 c_a1 h) Q) :
    Tells (fun m => acallX Try.prog X m F_turn_Turn_Add [t_a0, c_a1] h) Q :=
  Tells.later (q.le fun m => (E_turn_Turn_Add (acallX Try.prog X m) m t_a0 c_a1 h) ▸ acallX_le Try.func9 hx m h)

/-! ### (*precentor/turn.Turn).Pending -/

def S_turn_Turn_Pending (P : Program) (call : FuncId → List AVal → Heap → Res AVal) (fuel : Nat) (t_a0 : AVal) (h : Heap) : Res AVal :=
lt (retK P [.tmp 2]) fun k =>
arb (.val (.int .i64 0) h) call fun v_0 h1 =>
arb (.val t_a0 h1) call fun v_2 h3 =>
arb (nckR v_2 h3) call fun v_4 h5 =>
arb (.of (fadR 6 v_4) h5) call fun v_6 h7 =>
arb (.of (ld1 h7 v_6) h7) call fun v_8 h9 =>
arb (.of (lenL v_8) h9) call fun v_10 h11 =>
arb (.val v_10 h11) call fun v_12 h13 =>
k .ret (upd (upd (upd (upd (upd (upd (upd (enterT [t_a0]) 2 v_0) 3 v_2) 4 v_4) 5 v_6) 6 v_8) 7 v_10) 2 v_12) h13
theorem E_turn_Turn_Pending (call : FuncId → List AVal → Heap → Res AVal) (fuel : Nat) (t_a0 : AVal) (h : Heap) : bodyR Try.prog call fuel Try.f10 [t_a0] h = S_turn_Turn_Pending Try.prog call fuel t_a0 h := by kernel_rfl
theorem R_turn_Turn_Pending {X : XTab} (t_a0 : AVal) {h : Heap} {Q : AVal → Heap → Prop} (hx : X F_turn_Turn_Pending [t_a0] = none) (q : Tells (fun m => S_turn_Turn_Pending Try.prog (acallX Try.prog X m) m t_a0 h) Q) :
    Tells (fun m => acallX Try.prog X m F_turn_Turn_Pending [t_a0] h) Q :=
  Tells.later (q.le fun m => (E_turn_Turn_Pending (acallX Try.prog X m) m t_a0 h) ▸ acallX_le Try.func10 hx m h)

/-! ### (*precentor/turn.Turn).Stopped -/

def S_turn_Turn_Stopped (P : Program) (call : FuncId → List AVal → Heap → Res AVal) (fuel : Nat) (t_a0 : AVal) (h : Heap) : Res AVal :=
lt (retK P [.tmp 2]) fun k =>
arb (.val (.bool false) h) call fun v_0 h1 =>
arb (.val t_a0 h1) call fun v_2 h3 =>
arb (nckR v_2 h3) call fun v_4 h5 =>
arb (.of (fadR 4 v_4) h5) call fun v_6 h7 =>
arb (.of (ld1 h7 v_6) h7) call fun v_8 h9 =>
arb (.val v_8 h9) call fun v_10 h11 =>
k .ret (upd (upd (upd (upd (upd (upd (enterT [t_a0]) 2 v_0) 3 v_2) 4 v_4) 5 v_6) 6 v_8) 2 v_10) h11
theorem E_turn_Turn_Stopped (call : FuncId → List AVal → Heap → Res AVal) (fuel : Nat) (t_a0 : AVal) (h : Heap) : bodyR Try.prog call fuel Try.f11 [t_a0] h = S_turn_Turn_Stopped Try.prog call fuel t_a0 h := by kernel_rfl
theorem R_turn_Turn_Stopped {X : XTab} (t_a0 : AVal) {h : Heap} {Q : AVal → Heap → Prop} (hx : X F_turn_Turn_Stopped [t_a0] = none) (q : Tells (fun m => S_turn_Turn_Stopped Try.prog (acallX Try.prog X m) m t_a0 h) Q) :
    Tells (fun m => acallX Try.prog X m F_turn_Turn_Stopped [t_a0] h) Q :=
  Tells.later (q.le fun m => (E_turn_Turn_Stopped (acallX Try.prog X m) m t_a0 h) ▸ acallX_le Try.func11 hx m h)

/-! ### (*precentor/turn.Turn).Ready -/
def J_turn_Turn_Ready_1 (P : Program) (call : FuncId → List AVal → Heap → Res AVal) (fuel : Nat) (k : Kn (AVal)) (t : T) (h : Heap) : Res (AVal) :=
arb (.val (t 0) h) call fun v_2 h3 =>
arb (nckR v_2 h3) call fun v_4 h5 =>
arb (.of (fadR 5 v_4) h5) call fun v_6 h7 =>
arb (stR 1 h7 v_6 (.bool true)) call fun v_8 h9 =>
arb (.val (.bool true) h9) call fun v_10 h11 =>
k .ret (upd (upd (upd (upd t 33 v_2) 34 v_4) 35 v_6) 4 v_10) h11

def J_turn_Turn_Ready_4 (P : Program) (call : FuncId → List AVal → Heap → Res AVal) (fuel : Nat) (k : Kn (Ex × T)) (t : T) (h : Heap) : Res (Ex × T) :=
arb (.of (aBin P .add 3 (.tmp 26) (.const (.int .i64 1)) (t 26) (.int .i64 1)) h) call fun v_28 h29 =>
arb (.val v_28 h29) call fun v_30 h31 =>
k .normal (upd (upd t 32 v_28) 26 v_30) h31

def J_turn_Turn_Ready_3 (P : Program) (call : FuncId → List AVal → Heap → Res AVal) (fuel : Nat) (k : Kn (Ex × T)) (t : T) (h : Heap) : Res (Ex × T) :=
lt (sqK (J_turn_Turn_Ready_4 P call fuel k) k) fun k32 =>
lt (blkK 1 k32) fun k33 =>
arb (.of (ixsR 1 (t 24) (t 26)) h) call fun v_34 h35 =>
arb (.of (ld1 h35 v_34) h35) call fun v_36 h37 =>
arb (.val v_36 h37) call fun q_38 h39 =>
arb (.val q_38 h39) call fun v_40 h41 =>
arb (.of (aUn P .not v_40) h41) call fun v_42 h43 =>
cb v_42 (
arb (.val (.bool false) h43) call fun v_44 h45 =>
k33 .ret (upd (upd (upd (upd (upd (upd t 28 v_34) 29 v_36) 6 q_38) 30 v_40) 31 v_42) 4 v_44) h45) (
k33 .normal (upd (upd (upd (upd (upd t 28 v_34) 29 v_36) 6 q_38) 30 v_40) 31 v_42) h43)

def L_turn_Turn_Ready_2 (P : Program) (call : FuncId → List AVal → Heap → Res AVal) (fuel : Nat) (t : T) (h : Heap) : Res (Ex × T) :=
lt okK fun k =>
arb (.of (aBin P .lss 3 (.tmp 26) (.tmp 25) (t 26) (t 25)) h) call fun v_26 h27 =>
lt (sqK (J_turn_Turn_Ready_3 P call fuel k) k) fun k46 =>
cb v_26 (
k46 .normal (upd t 27 v_26) h27) (
k46 (.exit 0) (upd t 27 v_26) h27)

def J_turn_Turn_Ready_0 (P : Program) (call : FuncId → List AVal → Heap → Res AVal) (fuel : Nat) (k : Kn (AVal)) (t : T) (h : Heap) : Res (AVal) :=
lt (sqK (J_turn_Turn_Ready_1 P call fuel k) k) fun k12 =>
arb (.val (t 0) h) call fun v_13 h14 =>
arb (nckR v_13 h14) call fun v_15 h16 =>
arb (.of (fadR 2 v_15) h16) call fun v_17 h18 =>
arb (.of (ld1 h18 v_17) h18) call fun v_19 h20 =>
arb (.of (lenL v_19) h20) call fun v_21 h22 =>
arb (.val (.int .i64 0) h22) call fun v_23 h24 =>
lt (blkK 0 k12) fun k25 =>
(loopN (L_turn_Turn_Ready_2 P call fuel) fuel (upd (upd (upd (upd (upd (upd t 21 v_13) 22 v_15) 23 v_17) 24 v_19) 25 v_21) 26 v_23) h24).bind (lpK k25)

def S_turn_Turn_Ready (P : Program) (call : FuncId → List AVal → Heap → Res AVal) (fuel : Nat) (t_a0 live_a1 : AVal) (h : Heap) : Res AVal :=
lt (retK P [.tmp 4]) fun k =>
arb (.val (.bool false) h) call fun v_0 h1 =>
lt (sqK (J_turn_Turn_Ready_0 P call fuel k) k) fun k47 =>
arb (.val t_a0 h1) call fun v_48 h49 =>
arb (nckR v_48 h49) call fun v_50 h51 =>
arb (.of (fadR 4 v_50) h51) call fun v_52 h53 =>
arb (.of (ld1 h53 v_52) h53) call fun v_54 h55 =>
arb (.of (aUn P .not v_54) h55) call fun v_56 h57 =>
arb (.val v_56 h57) call fun v_58 h59 =>
gd (wantB v_58 false) (fun c => arb (.val live_a1 h59) call c) h59 fun v_60 h61 =>
arb (pkR v_58 (.bool true) v_60 h61) call fun v_62 h63 =>
arb (.val v_62 h63) call fun v_64 h65 =>
gd (wantB v_64 false) (fun c => arb (.val t_a0 h65) call c) h65 fun v_66 h67 =>
gd (wantB v_64 false) (fun c => arb (nckR v_66 h67) call c) h67 fun v_68 h69 =>
gd (wantB v_64 false) (fun c => arb (.of (fadR 5 v_68) h69) call c) h69 fun v_70 h71 =>
gd (wantB v_64 false) (fun c => arb (.of (ld1 h71 v_70) h71) call c) h71 fun v_72 h73 =>
arb (pkR v_64 (.bool true) v_72 h73) call fun v_74 h75 =>
cb v_74 (
arb (.val (.bool false) h75) call fun v_76 h77 =>
k47 .ret (upd (upd (upd (upd (upd (upd (upd (upd (upd (upd (upd (upd (upd (upd (upd (upd (enterT [t_a0, live_a1]) 4 v_0) 7 v_48) 8 v_50) 9 v_52) 10 v_54) 11 v_56) 12 v_58) 13 v_60) 14 v_62) 15 v_64) 16 v_66) 17 v_68) 18 v_70) 19 v_72) 20 v_74) 4 v_76) h77) (
k47 .normal (upd (upd (upd (upd (upd (upd (upd (upd (upd (upd (upd (upd (upd (upd (upd (enterT [t_a0, live_a1]) 4 v_0) 7 v_48) 8 v_50) 9 v_52) 10 v_54) 11 v_56) 12 v_58) 13 v_60) 14 v_62) 15 v_64) 16 v_66) 17 v_68) 18 v_70) 19 v_72) 20 v_74) h75)
theorem E_turn_Turn_Ready (call : FuncId → List AVal → Heap → Res AVal) (fuel : Nat) (t_a0 live_a1 : AVal) (h : Heap) : bodyR Try.prog call fuel Try.f12 [t_a0, live_a1] h = S_turn_Turn_Ready Try.prog call fuel t_a0 live_a1 h := by kernel_rfl
theorem R_turn_Turn_Ready {X : XTab} (t_a0 live_a1 : AVal) {h : Heap} {Q : AVal → Heap → Prop} (hx : X F_turn_Turn_Ready [t_a0, live_a1] = none) (q : Tells (fun m => S_turn_Turn_Ready Try.prog (acallX Try.prog X m) m t_a0 live_a1 h) Q) :
    Tells (fun m => acallX Try.prog X m F_turn_Turn_Ready [t_a0, live_a1] h) Q :=
  Tells.later (q.le fun m => (E_turn_Turn_Ready (acallX Try.prog X m) m t_a0 live_a1 h) ▸ acallX_le Try.func12 hx m h)

/-! ### (*precentor/turn.Turn).Quiet -/
def J_turn_Turn_Quiet_1 (P : Program) (call : FuncId → List AVal → Heap → Res AVal) (fuel : Nat) (k : Kn (AVal)) (t : T) (h : Heap) : Res (AVal) :=
arb (.val (.bool false) h) call fun v_2 h3 =>
k .ret (upd t 6 v_2) h3

def J_turn_Turn_Quiet_4 (P : Program) (call : FuncId → List AVal → Heap → Res AVal) (fuel : Nat) (k : Kn (Ex × T)) (t : T) (h : Heap) : Res (Ex × T) :=
arb (.of (aBin P .add 3 (.tmp 27) (.const (.int .i64 1)) (t 27) (.int .i64 1)) h) call fun v_20 h21 =>
arb (.val v_20 h21) call fun v_22 h23 =>
k .normal (upd (upd t 51 v_20) 27 v_22) h23

def J_turn_Turn_Quiet_3 (P : Program) (call : FuncId → List AVal → Heap → Res AVal) (fuel : Nat) (k : Kn (Ex × T)) (t : T) (h : Heap) : Res (Ex × T) :=
lt (sqK (J_turn_Turn_Quiet_4 P call fuel k) k) fun k24 =>
lt (blkK 1 k24) fun k25 =>
arb (.val (t 27) h) call fun v_26 h27 =>
arb (.of (ixsR 1 (t 25) (t 27)) h27) call fun v_28 h29 =>
arb (.of (ld1 h29 v_28) h29) call fun v_30 h31 =>
arb (.val v_26 h31) call fun i_32 h33 =>
arb (.val v_30 h33) call fun k_34 h35 =>
arb (.val k_34 h35) call fun v_36 h37 =>
arb (.val (t 1) h37) call fun v_38 h39 =>
arb (.of (aBin P .eql 3 (.tmp 32) (.tmp 33) v_36 v_38) h39) call fun v_40 h41 =>
arb (.val v_40 h41) call fun v_42 h43 =>
gd (wantB v_42 true) (fun c => arb (.val (t 0) h43) call c) h43 fun v_44 h45 =>
gd (wantB v_42 true) (fun c => arb (nckR v_44 h45) call c) h45 fun v_46 h47 =>
gd (wantB v_42 true) (fun c => arb (.of (fadR 2 v_46) h47) call c) h47 fun v_48 h49 =>
gd (wantB v_42 true) (fun c => arb (.of (ld1 h49 v_48) h49) call c) h49 fun v_50 h51 =>
gd (wantB v_42 true) (fun c => arb (.val i_32 h51) call c) h51 fun v_52 h53 =>
gd (wantB v_42 true) (fun c => arb (.of (ixsR 1 v_50 v_52) h53) call c) h53 fun v_54 h55 =>
gd (wantB v_42 true) (fun c => arb (.of (ld1 h55 v_54) h55) call c) h55 fun v_56 h57 =>
gd (wantB v_42 true) (fun c => arb (.of (aUn P .not v_56) h57) call c) h57 fun v_58 h59 =>
arb (pkR v_42 v_58 (.bool false) h59) call fun v_60 h61 =>
cb v_60 (
arb (.val (t 0) h61) call fun v_62 h63 =>
arb (nckR v_62 h63) call fun v_64 h65 =>
arb (.of (fadR 2 v_64) h65) call fun v_66 h67 =>
arb (.of (ld1 h67 v_66) h67) call fun v_68 h69 =>
arb (.val i_32 h69) call fun v_70 h71 =>
arb (.of (ixsR 1 v_68 v_70) h71) call fun v_72 h73 =>
arb (stR 1 h73 v_72 (.bool true)) call fun v_74 h75 =>
arb (.val (.bool true) h75) call fun v_76 h77 =>
k25 .ret (upd (upd (upd (upd (upd (upd (upd (upd (upd (upd (upd (upd (upd (upd (upd (upd (upd (upd (upd (upd (upd (upd (upd (upd (upd t 29 v_26) 30 v_28) 31 v_30) 7 i_32) 8 k_34) 32 v_36) 33 v_38) 34 v_40) 35 v_42) 36 v_44) 37 v_46) 38 v_48) 39 v_50) 40 v_52) 41 v_54) 42 v_56) 43 v_58) 44 v_60) 45 v_62) 46 v_64) 47 v_66) 48 v_68) 49 v_70) 50 v_72) 6 v_76) h77) (
k25 .normal (upd (upd (upd (upd (upd (upd (upd (upd (upd (upd (upd (upd (upd (upd (upd (upd (upd (upd t 29 v_26) 30 v_28) 31 v_30) 7 i_32) 8 k_34) 32 v_36) 33 v_38) 34 v_40) 35 v_42) 36 v_44) 37 v_46) 38 v_48) 39 v_50) 40 v_52) 41 v_54) 42 v_56) 43 v_58) 44 v_60) h61)

def L_turn_Turn_Quiet_2 (P : Program) (call : FuncId → List AVal → Heap → Res AVal) (fuel : Nat) (t : T) (h : Heap) : Res (Ex × T) :=
lt okK fun k =>
arb (.of (aBin P .lss 3 (.tmp 27) (.tmp 26) (t 27) (t 26)) h) call fun v_18 h19 =>
lt (sqK (J_turn_Turn_Quiet_3 P call fuel k) k) fun k78 =>
cb v_18 (
k78 .normal (upd t 28 v_18) h19) (
k78 (.exit 0) (upd t 28 v_18) h19)

def J_turn_Turn_Quiet_0 (P : Program) (call : FuncId → List AVal → Heap → Res AVal) (fuel : Nat) (k : Kn (AVal)) (t : T) (h : Heap) : Res (AVal) :=
lt (sqK (J_turn_Turn_Quiet_1 P call fuel k) k) fun k4 =>
arb (.val (t 0) h) call fun v_5 h6 =>
arb (nckR v_5 h6) call fun v_7 h8 =>
arb (.of (fadR 1 v_7) h8) call fun v_9 h10 =>
arb (.of (ld1 h10 v_9) h10) call fun v_11 h12 =>
arb (.of (lenL v_11) h12) call fun v_13 h14 =>
arb (.val (.int .i64 0) h14) call fun v_15 h16 =>
lt (blkK 0 k4) fun k17 =>
(loopN (L_turn_Turn_Quiet_2 P call fuel) fuel (upd (upd (upd (upd (upd (upd t 22 v_5) 23 v_7) 24 v_9) 25 v_11) 26 v_13) 27 v_15) h16).bind (lpK k17)

def S_turn_Turn_Quiet (P : Program) (call : FuncId → List AVal → Heap → Res AVal) (fuel : Nat) (t_a0 kid_a1 epoch_a2 : AVal) (h : Heap) : Res AVal :=
lt (retK P [.tmp 6]) fun k =>
arb (.val (.bool false) h) call fun v_0 h1 =>
lt (sqK (J_turn_Turn_Quiet_0 P call fuel k) k) fun k79 =>
arb (.val t_a0 h1) call fun v_80 h81 =>
arb (nckR v_80 h81) call fun v_82 h83 =>
arb (.of (fadR 4 v_82) h83) call fun v_84 h85 =>
arb (.of (ld1 h85 v_84) h85) call fun v_86 h87 =>
arb (.of (aUn P .not v_86) h87) call fun v_88 h89 =>
arb (.val v_88 h89) call fun v_90 h91 =>
gd (wantB v_90 false) (fun c => arb (.val epoch_a2 h91) call c) h91 fun v_92 h93 =>
gd (wantB v_90 false) (fun c => arb (.val t_a0 h93) call c) h93 fun v_94 h95 =>
gd (wantB v_90 false) (fun c => arb (nckR v_94 h95) call c) h95 fun v_96 h97 =>
gd (wantB v_90 false) (fun c => arb (.of (fadR 3 v_96) h97) call c) h97 fun v_98 h99 =>
gd (wantB v_90 false) (fun c => arb (.of (ld1 h99 v_98) h99) call c) h99 fun v_100 h101 =>
gd (wantB v_90 false) (fun c => arb (.of (aBin P .neq 3 (.tmp 15) (.tmp 19) v_92 v_100) h101) call c) h101 fun v_102 h103 =>
arb (pkR v_90 (.bool true) v_102 h103) call fun v_104 h105 =>
cb v_104 (
arb (.val (.bool false) h105) call fun v_106 h107 =>
k79 .ret (upd (upd (upd (upd (upd (upd (upd (upd (upd (upd (upd (upd (upd (upd (upd (enterT [t_a0, kid_a1, epoch_a2]) 6 v_0) 9 v_80) 10 v_82) 11 v_84) 12 v_86) 13 v_88) 14 v_90) 15 v_92) 16 v_94) 17 v_96) 18 v_98) 19 v_100) 20 v_102) 21 v_104) 6 v_106) h107) (
k79 .normal (upd (upd (upd (upd (upd (upd (upd (upd (upd (upd (upd (upd (upd (upd (enterT [t_a0, kid_a1, epoch_a2]) 6 v_0) 9 v_80) 10 v_82) 11 v_84) 12 v_86) 13 v_88) 14 v_90) 15 v_92) 16 v_94) 17 v_96) 18 v_98) 19 v_100) 20 v_102) 21 v_104) h105)
theorem E_turn_Turn_Quiet (call : FuncId → List AVal → Heap → Res AVal) (fuel : Nat) (t_a0 kid_a1 epoch_a2 : AVal) (h : Heap) : bodyR Try.prog call fuel Try.f13 [t_a0, kid_a1, epoch_a2] h = S_turn_Turn_Quiet Try.prog call fuel t_a0 kid_a1 epoch_a2 h := by kernel_rfl
theorem R_turn_Turn_Quiet {X : XTab} (t_a0 kid_a1 epoch_a2 : AVal) {h : Heap} {Q : AVal → Heap → Prop} (hx : X F_turn_Turn_Quiet [t_a0, kid_a1, epoch_a2] = none) (q : Tells (fun m => S_turn_Turn_Quiet Try.prog (acallX Try.prog X m) m t_a0 kid_a1 epoch_a2 h) Q) :
    Tells (fun m => acallX Try.prog X m F_turn_Turn_Quiet [t_a0, kid_a1, epoch_a2] h) Q :=
  Tells.later (q.le fun m => (E_turn_Turn_Quiet (acallX Try.prog X m) m t_a0 kid_a1 epoch_a2 h) ▸ acallX_le Try.func13 hx m h)

/-! ### (*precentor/turn.Turn).Open -/
def J_turn_Turn_Open_0 (P : Program) (call : FuncId → List AVal → Heap → Res AVal) (fuel : Nat) (k : Kn (AVal)) (t : T) (h : Heap) : Res (AVal) :=
arb (.val (t 0) h) call fun v_4 h5 =>
arb (nckR v_4 h5) call fun v_6 h7 =>
arb (.of (fadR 6 v_6) h7) call fun v_8 h9 =>
arb (.of (ld1 h9 v_8) h9) call fun v_10 h11 =>
arb (.val v_10 h11) call fun out_12 h13 =>
arb (.val (t 0) h13) call fun v_14 h15 =>
arb (nckR v_14 h15) call fun v_16 h17 =>
arb (.of (fadR 6 v_16) h17) call fun v_18 h19 =>
arb (stR 1 h19 v_18 .nils) call fun v_20 h21 =>
arb (.val (t 0) h21) call fun v_22 h23 =>
arb (.val (t 0) h23) call fun v_24 h25 =>
arb (.val (t 0) h25) call fun v_26 h27 =>
arb (.val (t 1) h27) call fun v_28 h29 =>
arb (nckR v_22 h29) call fun v_30 h31 =>
arb (.of (fadR 3 v_30) h31) call fun v_32 h33 =>
arb (stR 1 h33 v_32 v_28) call fun v_34 h35 =>
arb (nckR v_24 h35) call fun v_36 h37 =>
arb (.of (fadR 4 v_36) h37) call fun v_38 h39 =>
arb (stR 1 h39 v_38 (.bool false)) call fun v_40 h41 =>
arb (nckR v_26 h41) call fun v_42 h43 =>
arb (.of (fadR 5 v_42) h43) call fun v_44 h45 =>
arb (stR 1 h45 v_44 (.bool false)) call fun v_46 h47 =>
arb (.val (t 0) h47) call fun v_48 h49 =>
arb (.val (t 0) h49) call fun v_50 h51 =>
arb (nckR v_50 h51) call fun v_52 h53 =>
arb (.of (fadR 1 v_52) h53) call fun v_54 h55 =>
arb (.of (ld1 h55 v_54) h55) call fun v_56 h57 =>
arb (.of (lenL v_56) h57) call fun v_58 h59 =>
arb (makR 1 1 [(.bool false)] h59 v_58 v_58) call fun v_60 h61 =>
arb (nckR v_48 h61) call fun v_62 h63 =>
arb (.of (fadR 2 v_62) h63) call fun v_64 h65 =>
arb (stR 1 h65 v_64 v_60) call fun v_66 h67 =>
arb (.val out_12 h67) call fun v_68 h69 =>
arb (.val v_68 h69) call fun v_70 h71 =>
arb (.val (.bool true) h71) call fun v_72 h73 =>
k .ret (upd (upd (upd (upd (upd (upd (upd (upd (upd (upd (upd (upd (upd (upd (upd (upd (upd (upd (upd (upd (upd (upd (upd (upd (upd (upd (upd (upd (upd (upd t 21 v_4) 22 v_6) 23 v_8) 24 v_10) 6 out_12) 25 v_14) 26 v_16) 27 v_18) 28 v_22) 29 v_24) 30 v_26) 31 v_28) 32 v_30) 33 v_32) 34 v_36) 35 v_38) 36 v_42) 37 v_44) 38 v_48) 39 v_50) 40 v_52) 41 v_54) 42 v_56) 43 v_58) 44 v_60) 45 v_62) 46 v_64) 47 v_68) 4 v_70) 5 v_72) h73

def S_turn_Turn_Open (P : Program) (call : FuncId → List AVal → Heap → Res AVal) (fuel : Nat) (t_a0 epoch_a1 : AVal) (h : Heap) : Res AVal :=
lt (retK P [.tmp 4, .tmp 5]) fun k =>
arb (.val .nils h) call fun v_0 h1 =>
arb (.val (.bool false) h1) call fun v_2 h3 =>
lt (sqK (J_turn_Turn_Open_0 P call fuel k) k) fun k74 =>
arb (.val t_a0 h3) call fun v_75 h76 =>
arb (nckR v_75 h76) call fun v_77 h78 =>
arb (.of (fadR 4 v_77) h78) call fun v_79 h80 =>
arb (.of (ld1 h80 v_79) h80) call fun v_81 h82 =>
arb (.of (aUn P .not v_81) h82) call fun v_83 h84 =>
arb (.val v_83 h84) call fun v_85 h86 =>
gd (wantB v_85 false) (fun c => arb (.val epoch_a1 h86) call c) h86 fun v_87 h88 =>
gd (wantB v_85 false) (fun c => arb (.val t_a0 h88) call c) h88 fun v_89 h90 =>
gd (wantB v_85 false) (fun c => arb (nckR v_89 h90) call c) h90 fun v_91 h92 =>
gd (wantB v_85 false) (fun c => arb (.of (fadR 3 v_91) h92) call c) h92 fun v_93 h94 =>
gd (wantB v_85 false) (fun c => arb (.of (ld1 h94 v_93) h94) call c) h94 fun v_95 h96 =>
gd (wantB v_85 false) (fun c => arb (.of (aBin P .add 3 (.tmp 17) (.const (.int .i64 1)) v_95 (.int .i64 1)) h96) call c) h96 fun v_97 h98 =>
gd (wantB v_85 false) (fun c => arb (.of (aBin P .neq 3 (.tmp 13) (.tmp 18) v_87 v_97) h98) call c) h98 fun v_99 h100 =>
arb (pkR v_85 (.bool true) v_99 h100) call fun v_101 h102 =>
cb v_101 (
arb (.val .nils h102) call fun v_103 h104 =>
arb (.val (.bool false) h104) call fun v_105 h106 =>
k74 .ret (upd (upd (upd (upd (upd (upd (upd (upd (upd (upd (upd (upd (upd (upd (upd (upd (upd (upd (enterT [t_a0, epoch_a1]) 4 v_0) 5 v_2) 7 v_75) 8 v_77) 9 v_79) 10 v_81) 11 v_83) 12 v_85) 13 v_87) 14 v_89) 15 v_91) 16 v_93) 17 v_95) 18 v_97) 19 v_99) 20 v_101) 4 v_103) 5 v_105) h106) (
k74 .normal (upd (upd (upd (upd (upd (upd (upd (upd (upd (upd (upd (upd (upd (upd (upd (upd (enterT [t_a0, epoch_a1]) 4 v_0) 5 v_2) 7 v_75) 8 v_77) 9 v_79) 10 v_81) 11 v_83) 12 v_85) 13 v_87) 14 v_89) 15 v_91) 16 v_93) 17 v_95) 18 v_97) 19 v_99) 20 v_101) h102)
theorem E_turn_Turn_Open (call : FuncId → List AVal → Heap → Res AVal) (fuel : Nat) (t_a0 epoch_a1 : AVal) (h : Heap) : bodyR Try.prog call fuel Try.f14 [t_a0, epoch_a1] h = S_turn_Turn_Open Try.prog call fuel t_a0 epoch_a1 h := by kernel_rfl
theorem R_turn_Turn_Open {X : XTab} (t_a0 epoch_a1 : AVal) {h : Heap} {Q : AVal → Heap → Prop} (hx : X F_turn_Turn_Open [t_a0, epoch_a1] = none) (q : Tells (fun m => S_turn_Turn_Open Try.prog (acallX Try.prog X m) m t_a0 epoch_a1 h) Q) :
    Tells (fun m => acallX Try.prog X m F_turn_Turn_Open [t_a0, epoch_a1] h) Q :=
  Tells.later (q.le fun m => (E_turn_Turn_Open (acallX Try.prog X m) m t_a0 epoch_a1 h) ▸ acallX_le Try.func14 hx m h)

/-! ### (*precentor/turn.Turn).Epoch -/

def S_turn_Turn_Epoch (P : Program) (call : FuncId → List AVal → Heap → Res AVal) (fuel : Nat) (t_a0 : AVal) (h : Heap) : Res AVal :=
lt (retK P [.tmp 2]) fun k =>
arb (.val (.int .i64 0) h) call fun v_0 h1 =>
arb (.val t_a0 h1) call fun v_2 h3 =>
arb (nckR v_2 h3) call fun v_4 h5 =>
arb (.of (fadR 3 v_4) h5) call fun v_6 h7 =>
arb (.of (ld1 h7 v_6) h7) call fun v_8 h9 =>
arb (.val v_8 h9) call fun v_10 h11 =>
k .ret (upd (upd (upd (upd (upd (upd (enterT [t_a0]) 2 v_0) 3 v_2) 4 v_4) 5 v_6) 6 v_8) 2 v_10) h11
theorem E_turn_Turn_Epoch (call : FuncId → List AVal → Heap → Res AVal) (fuel : Nat) (t_a0 : AVal) (h : Heap) : bodyR Try.prog call fuel Try.f15 [t_a0] h = S_turn_Turn_Epoch Try.prog call fuel t_a0 h := by kernel_rfl
theorem R_turn_Turn_Epoch {X : XTab} (t_a0 : AVal) {h : Heap} {Q : AVal → Heap → Prop} (hx : X F_turn_Turn_Epoch [t_a0] = none) (q : Tells (fun m => S_turn_Turn_Epoch Try.prog (acallX Try.prog X m) m t_a0 h) Q) :
    Tells (fun m => acallX Try.prog X m F_turn_Turn_Epoch [t_a0] h) Q :=
  Tells.later (q.le fun m => (E_turn_Turn_Epoch (acallX Try.prog X m) m t_a0 h) ▸ acallX_le Try.func15 hx m h)

/-! ### (*precentor/turn.Turn).Stop -/
def J_turn_Turn_Stop_0 (P : Program) (call : FuncId → List AVal → Heap → Res AVal) (fuel : Nat) (k : Kn (AVal)) (t : T) (h : Heap) : Res (AVal) :=
arb (.val (t 0) h) call fun v_2 h3 =>
arb (nckR v_2 h3) call fun v_4 h5 =>
arb (.of (fadR 4 v_4) h5) call fun v_6 h7 =>
arb (stR 1 h7 v_6 (.bool true)) call fun v_8 h9 =>
arb (.val (.bool true) h9) call fun v_10 h11 =>
k .ret (upd (upd (upd (upd t 23 v_2) 24 v_4) 25 v_6) 4 v_10) h11

def S_turn_Turn_Stop (P : Program) (call : FuncId → List AVal → Heap → Res AVal) (fuel : Nat) (t_a0 epoch_a1 : AVal) (h : Heap) : Res AVal :=
lt (retK P [.tmp 4]) fun k =>
arb (.val (.bool false) h) call fun v_0 h1 =>
lt (sqK (J_turn_Turn_Stop_0 P call fuel k) k) fun k12 =>
arb (.val t_a0 h1) call fun v_13 h14 =>
arb (nckR v_13 h14) call fun v_15 h16 =>
arb (.of (fadR 0 v_15) h16) call fun v_17 h18 =>
arb (.of (ld1 h18 v_17) h18) call fun v_19 h20 =>
arb (.val v_19 h20) call fun v_21 h22 =>
gd (wantB v_21 false) (fun c => arb (.val t_a0 h22) call c) h22 fun v_23 h24 =>
gd (wantB v_21 false) (fun c => arb (nckR v_23 h24) call c) h24 fun v_25 h26 =>
gd (wantB v_21 false) (fun c => arb (.of (fadR 4 v_25) h26) call c) h26 fun v_27 h28 =>
gd (wantB v_21 false) (fun c => arb (.of (ld1 h28 v_27) h28) call c) h28 fun v_29 h30 =>
arb (pkR v_21 (.bool true) v_29 h30) call fun v_31 h32 =>
arb (.val v_31 h32) call fun v_33 h34 =>
gd (wantB v_33 false) (fun c => arb (.val epoch_a1 h34) call c) h34 fun v_35 h36 =>
gd (wantB v_33 false) (fun c => arb (.val t_a0 h36) call c) h36 fun v_37 h38 =>
gd (wantB v_33 false) (fun c => arb (nckR v_37 h38) call c) h38 fun v_39 h40 =>
gd (wantB v_33 false) (fun c => arb (.of (fadR 3 v_39) h40) call c) h40 fun v_41 h42 =>
gd (wantB v_33 false) (fun c => arb (.of (ld1 h42 v_41) h42) call c) h42 fun v_43 h44 =>
gd (wantB v_33 false) (fun c => arb (.of (aBin P .neq 3 (.tmp 16) (.tmp 20) v_35 v_43) h44) call c) h44 fun v_45 h46 =>
arb (pkR v_33 (.bool true) v_45 h46) call fun v_47 h48 =>
cb v_47 (
arb (.val (.bool false) h48) call fun v_49 h50 =>
k12 .ret (upd (upd (upd (upd (upd (upd (upd (upd (upd (upd (upd (upd (upd (upd (upd (upd (upd (upd (upd (upd (enterT [t_a0, epoch_a1]) 4 v_0) 5 v_13) 6 v_15) 7 v_17) 8 v_19) 9 v_21) 10 v_23) 11 v_25) 12 v_27) 13 v_29) 14 v_31) 15 v_33) 16 v_35) 17 v_37) 18 v_39) 19 v_41) 20 v_43) 21 v_45) 22 v_47) 4 v_49) h50) (
k12 .normal (upd (upd (upd (upd (upd (upd (upd (upd (upd (upd (upd (upd (upd (upd (upd (upd (upd (upd (upd (enterT [t_a0, epoch_a1]) 4 v_0) 5 v_13) 6 v_15) 7 v_17) 8 v_19) 9 v_21) 10 v_23) 11 v_25) 12 v_27) 13 v_29) 14 v_31) 15 v_33) 16 v_35) 17 v_37) 18 v_39) 19 v_41) 20 v_43) 21 v_45) 22 v_47) h48)
theorem E_turn_Turn_Stop (call : FuncId → List AVal → Heap → Res AVal) (fuel : Nat) (t_a0 epoch_a1 : AVal) (h : Heap) : bodyR Try.prog call fuel Try.f16 [t_a0, epoch_a1] h = S_turn_Turn_Stop Try.prog call fuel t_a0 epoch_a1 h := by kernel_rfl
theorem R_turn_Turn_Stop {X : XTab} (t_a0 epoch_a1 : AVal) {h : Heap} {Q : AVal → Heap → Prop} (hx : X F_turn_Turn_Stop [t_a0, epoch_a1] = none) (q : Tells (fun m => S_turn_Turn_Stop Try.prog (acallX Try.prog X m) m t_a0 epoch_a1 h) Q) :
    Tells (fun m => acallX Try.prog X m F_turn_Turn_Stop [t_a0, epoch_a1] h) Q :=
  Tells.later (q.le fun m => (E_turn_Turn_Stop (acallX Try.prog X m) m t_a0 epoch_a1 h) ▸ acallX_le Try.func16 hx m h)

/-! ### precentor/turn.clone -/
def J_turn_clone_0 (P : Program) (call : FuncId → List AVal → Heap → Res AVal) (fuel : Nat) (k : Kn (AVal)) (t : T) (h : Heap) : Res (AVal) :=
arb (.of (ldn 5 h (t 1)) h) call fun v_18 h19 =>
arb (stR 5 h19 (t 2) v_18) call fun v_20 h21 =>
k .ret (upd t 32 v_18) h21

def J_turn_clone_3 (P : Program) (call : FuncId → List AVal → Heap → Res AVal) (fuel : Nat) (k : Kn (Ex × T)) (t : T) (h : Heap) : Res (Ex × T) :=
arb (.of (aBin P .add 3 (.tmp 14) (.const (.int .i64 1)) (t 14) (.int .i64 1)) h) call fun v_36 h37 =>
arb (.val v_36 h37) call fun v_38 h39 =>
k .normal (upd (upd t 31 v_36) 14 v_38) h39

def J_turn_clone_2 (P : Program) (call : FuncId → List AVal → Heap → Res AVal) (fuel : Nat) (k : Kn (Ex × T)) (t : T) (h : Heap) : Res (Ex × T) :=
lt (sqK (J_turn_clone_3 P call fuel k) k) fun k40 =>
lt (blkK 1 k40) fun k41 =>
arb (.val (t 14) h) call fun v_42 h43 =>
arb (.val v_42 h43) call fun i_44 h45 =>
obv (.of (fadR 1 (t 1)) h45) fun v_46 =>
obv (.of (fadR 3 v_46) h45) fun v_48 =>
obv (.of (ld1 h45 v_48) h45) fun v_50 => ifb true <|
obv (.val i_44 h45) fun v_52 =>
obv (.of (fadR 1 (t 1)) h45) fun v_54 =>
obv (.of (fadR 3 v_54) h45) fun v_56 =>
obv (.of (ld1 h45 v_56) h45) fun v_58 => ifb true <|
obv (.val i_44 h45) fun v_60 =>
obv (.of (ixsR 13 v_58 v_60) h45) fun v_62 =>
obv (.of (fadR 12 v_62) h45) fun v_64 =>
obv (.of (ld1 h45 v_64) h45) fun v_66 => ifb true <|
arbE (appR 5 48 h45 .nils v_66) call fun v_68 h69 => lt h69 fun g69 => ifb (true && (isV v_50 (arVal (.of (ld1 g69 v_48) g69)) && true)) <|
obv (.of (ixsR 13 v_50 v_52) g69) fun v_70 =>
obv (.of (fadR 12 v_70) g69) fun v_72 =>
arbE (stR 1 g69 v_72 v_68) call fun v_74 h75 => lt h75 fun g75 => ifb (true && true) <|
k41 .normal (upd (upd (upd (upd (upd (upd (upd (upd (upd (upd (upd (upd (upd (upd (upd (upd t 16 v_42) 3 i_44) 17 v_46) 18 v_48) 19 v_50) 20 v_52) 21 v_54) 22 v_56) 23 v_58) 24 v_60) 25 v_62) 26 v_64) 27 v_66) 28 v_68) 29 v_70) 30 v_72) g75

def L_turn_clone_1 (P : Program) (call : FuncId → List AVal → Heap → Res AVal) (fuel : Nat) (t : T) (h : Heap) : Res (Ex × T) :=
lt okK fun k =>
arb (.of (aBin P .lss 3 (.tmp 14) (.tmp 13) (t 14) (t 13)) h) call fun v_34 h35 =>
lt (sqK (J_turn_clone_2 P call fuel k) k) fun k76 =>
cb v_34 (
k76 .normal (upd t 15 v_34) h35) (
k76 (.exit 0) (upd t 15 v_34) h35)

theorem C_turn_clone_0 (h : Heap) (a : AVal) : aLoad Try.prog h 31 a = ldn 5 h a := by kernel_rfl
def S_turn_clone (P : Program) (call : FuncId → List AVal → Heap → Res AVal) (fuel : Nat) (c_a0 : AVal) (h : Heap) : Res AVal :=
lt (retK P [.cell 2 31]) fun k =>
arb (boxR c_a0 h) call fun c_0 h1 =>
arb (newR [(.bool false), (.int .i64 0), (.int .i64 0), (.int .i64 0), .nils] h1) call fun v_2 h3 =>
arb (.of (fadR 1 c_0) h3) call fun v_4 h5 =>
arb (.of (fadR 3 v_4) h5) call fun v_6 h7 =>
arb (.of (ld1 h7 v_6) h7) call fun v_8 h9 =>
arb (appR 13 144 h9 .nils v_8) call fun v_10 h11 =>
arb (.of (fadR 1 c_0) h11) call fun v_12 h13 =>
arb (.of (fadR 3 v_12) h13) call fun v_14 h15 =>
arb (stR 1 h15 v_14 v_10) call fun v_16 h17 =>
lt (sqK (J_turn_clone_0 P call fuel k) k) fun k22 =>
arb (.of (fadR 1 c_0) h17) call fun v_23 h24 =>
arb (.of (fadR 3 v_23) h24) call fun v_25 h26 =>
arb (.of (ld1 h26 v_25) h26) call fun v_27 h28 =>
arb (.of (lenL v_27) h28) call fun v_29 h30 =>
arb (.val (.int .i64 0) h30) call fun v_31 h32 =>
lt (blkK 0 k22) fun k33 =>
(loopN (L_turn_clone_1 P call fuel) fuel (upd (upd (upd (upd (upd (upd (upd (upd (upd (upd (upd (upd (upd (enterT [c_a0]) 1 c_0) 2 v_2) 4 v_4) 5 v_6) 6 v_8) 7 v_10) 8 v_12) 9 v_14) 10 v_23) 11 v_25) 12 v_27) 13 v_29) 14 v_31) h32).bind (lpK k33)
theorem E_turn_clone (call : FuncId → List AVal → Heap → Res AVal) (fuel : Nat) (c_a0 : AVal) (h : Heap) : bodyR Try.prog call fuel Try.f33 [c_a0] h = S_turn_clone Try.prog call fuel c_a0 h := by kernel_rfl
theorem R_turn_clone {X : XTab} (c_a0 : AVal) {h : Heap} {Q : AVal → Heap → Prop} (hx : X F_turn_clone [c_a0] = none) (q : Tells (fun m => S_turn_clone Try.prog (acallX Try.prog X m) m c_a0 h) Q) :
    Tells (fun m => acallX Try.prog X m F_turn_clone [c_a0] h) Q :=
  Tells.later (q.le fun m => (E_turn_clone (acallX Try.prog X m) m c_a0 h) ▸ acallX_le Try.func33 hx m h)


end Go.Proofs.Ytchmlbjjadlleaa
