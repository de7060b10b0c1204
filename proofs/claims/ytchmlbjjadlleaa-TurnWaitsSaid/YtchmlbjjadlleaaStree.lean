/-
  Functions of tree in the form of YtchmlbjjadlleaaABS (printed by a program of ours, gen.lean).
-/
import Derived.Test.YtchmlbjjadlleaaSIds
set_option linter.unusedVariables false
namespace Go.Proofs.Ytchmlbjjadlleaa
open Go.Ab
/-! ### precentor/tree.Next -/
def J_tree_Next_0 (P : Program) (call : FuncId → List AVal → Heap → Res AVal) (fuel : Nat) (k : Kn (AVal)) (t : T) (h : Heap) : Res (AVal) :=
arb (.val (t 0) h) call fun v_2 h3 =>
arb (.val (t 1) h3) call fun v_4 h5 =>
arb (.val (t 2) h5) call fun v_6 h7 =>
arb (.call F_tree_path [v_2, v_4, v_6] h7) call fun v_8 h9 =>
arb (.of (ixsR 1 v_8 (.int .i64 1)) h9) call fun v_10 h11 =>
arb (.of (ld1 h11 v_10) h11) call fun v_12 h13 =>
arb (.val v_12 h13) call fun v_14 h15 =>
k .ret (upd (upd (upd (upd (upd (upd (upd t 22 v_2) 23 v_4) 24 v_6) 25 v_8) 26 v_10) 27 v_12) 6 v_14) h15

def S_tree_Next (P : Program) (call : FuncId → List AVal → Heap → Res AVal) (fuel : Nat) (p_a0 from_a1 to_a2 : AVal) (h : Heap) : Res AVal :=
lt (retK P [.tmp 6]) fun k =>
arb (.val (.int .i64 0) h) call fun v_0 h1 =>
lt (sqK (J_tree_Next_0 P call fuel k) k) fun k16 =>
arb (.val p_a0 h1) call fun v_17 h18 =>
arb (.val from_a1 h18) call fun v_19 h20 =>
arb (.call F_tree_is [v_17, v_19] h20) call fun v_21 h22 =>
arb (.of (aUn P .not v_21) h22) call fun v_23 h24 =>
arb (.val v_23 h24) call fun v_25 h26 =>
gd (wantB v_25 false) (fun c => arb (.val p_a0 h26) call c) h26 fun v_27 h28 =>
gd (wantB v_25 false) (fun c => arb (.val to_a2 h28) call c) h28 fun v_29 h30 =>
gd (wantB v_25 false) (fun c => arb (.call F_tree_is [v_27, v_29] h30) call c) h30 fun v_31 h32 =>
gd (wantB v_25 false) (fun c => arb (.of (aUn P .not v_31) h32) call c) h32 fun v_33 h34 =>
arb (pkR v_25 (.bool true) v_33 h34) call fun v_35 h36 =>
arb (.val v_35 h36) call fun v_37 h38 =>
gd (wantB v_37 false) (fun c => arb (.val from_a1 h38) call c) h38 fun v_39 h40 =>
gd (wantB v_37 false) (fun c => arb (.val to_a2 h40) call c) h40 fun v_41 h42 =>
gd (wantB v_37 false) (fun c => arb (.of (aBin P .eql 3 (.tmp 18) (.tmp 19) v_39 v_41) h42) call c) h42 fun v_43 h44 =>
arb (pkR v_37 (.bool true) v_43 h44) call fun v_45 h46 =>
cb v_45 (
arb (.val (.int .i64 (-1)) h46) call fun v_47 h48 =>
k16 .ret (upd (upd (upd (upd (upd (upd (upd (upd (upd (upd (upd (upd (upd (upd (upd (upd (upd (enterT [p_a0, from_a1, to_a2]) 6 v_0) 7 v_17) 8 v_19) 9 v_21) 10 v_23) 11 v_25) 12 v_27) 13 v_29) 14 v_31) 15 v_33) 16 v_35) 17 v_37) 18 v_39) 19 v_41) 20 v_43) 21 v_45) 6 v_47) h48) (
k16 .normal (upd (upd (upd (upd (upd (upd (upd (upd (upd (upd (upd (upd (upd (upd (upd (upd (enterT [p_a0, from_a1, to_a2]) 6 v_0) 7 v_17) 8 v_19) 9 v_21) 10 v_23) 11 v_25) 12 v_27) 13 v_29) 14 v_31) 15 v_33) 16 v_35) 17 v_37) 18 v_39) 19 v_41) 20 v_43) 21 v_45) h46)
theorem E_tree_Next (call : FuncId → List AVal → Heap → Res AVal) (fuel : Nat) (p_a0 from_a1 to_a2 : AVal) (h : Heap) : bodyR Try.prog call fuel Try.f29 [p_a0, from_a1, to_a2] h = S_tree_Next Try.prog call fuel p_a0 from_a1 to_a2 h := by kernel_rfl
theorem R_tree_Next {X : XTab} (p_a0 from_a1 to_a2 : AVal) {h : Heap} {Q : AVal → Heap → Prop} (hx : X F_tree_Next [p_a0, from_a1, to_a2] = none) (q : Tells (fun m => S_tree_Next Try.prog (acallX Try.prog X m) m p_a0 from_a1 to_a2 h) Q) :
    Tells (fun m => acallX Try.prog X m F_tree_Next [p_a0, from_a1, to_a2] h) Q :=
  Tells.later (q.le fun m => (E_tree_Next (acallX Try.prog X m) m p_a0 from_a1 to_a2 h) ▸ acallX_le Try.func29 hx m h)

/-! ### precentor/tree.Side -/
def J_tree_Side_0 (P : Program) (call : FuncId → List AVal → Heap → Res AVal) (fuel : Nat) (k : Kn (AVal)) (t : T) (h : Heap) : Res (AVal) :=
arb (.val (t 7) h) call fun v_4 h5 =>
arb (.val v_4 h5) call fun v_6 h7 =>
k .ret (upd (upd t 29 v_4) 6 v_6) h7

def J_tree_Side_3 (P : Program) (call : FuncId → List AVal → Heap → Res AVal) (fuel : Nat) (k : Kn (Ex × T)) (t : T) (h : Heap) : Res (Ex × T) :=
arb (.val (t 8) h) call fun v_12 h13 =>
arb (.of (aBin P .add 3 (.tmp 17) (.const (.int .i64 1)) v_12 (.int .i64 1)) h13) call fun v_14 h15 =>
arb (.val v_14 h15) call fun x_16 h17 =>
k .normal (upd (upd (upd t 17 v_12) 18 v_14) 8 x_16) h17

def J_tree_Side_2 (P : Program) (call : FuncId → List AVal → Heap → Res AVal) (fuel : Nat) (k : Kn (Ex × T)) (t : T) (h : Heap) : Res (Ex × T) :=
lt (sqK (J_tree_Side_3 P call fuel k) k) fun k18 =>
lt (blkK 1 k18) fun k19 =>
arb (.val (t 0) h) call fun v_20 h21 =>
arb (.val (t 1) h21) call fun v_22 h23 =>
arb (.val (t 8) h23) call fun v_24 h25 =>
arb (.call F_tree_Next [v_20, v_22, v_24] h25) call fun v_26 h27 =>
arb (.val (t 2) h27) call fun v_28 h29 =>
arb (.of (aBin P .eql 3 (.tmp 22) (.tmp 23) v_26 v_28) h29) call fun v_30 h31 =>
cb v_30 (
arb (.val (t 7) h31) call fun v_32 h33 =>
arb (.val (t 8) h33) call fun v_34 h35 =>
arb (bslR 1 [(.int .i64 0)] 1 h35 [(0, 1, v_34)]) call fun v_36 h37 =>
arb (appR 1 8 h37 v_32 v_36) call fun v_38 h39 =>
arb (.val v_38 h39) call fun out_40 h41 =>
k19 .normal (upd (upd (upd (upd (upd (upd (upd (upd (upd (upd (upd t 19 v_20) 20 v_22) 21 v_24) 22 v_26) 23 v_28) 24 v_30) 25 v_32) 26 v_34) 27 v_36) 28 v_38) 7 out_40) h41) (
k19 .normal (upd (upd (upd (upd (upd (upd t 19 v_20) 20 v_22) 21 v_24) 22 v_26) 23 v_28) 24 v_30) h31)

def L_tree_Side_1 (P : Program) (call : FuncId → List AVal → Heap → Res AVal) (fuel : Nat) (t : T) (h : Heap) : Res (Ex × T) :=
lt okK fun k =>
lt (sqK (J_tree_Side_2 P call fuel k) k) fun k42 =>
arb (.val (t 8) h) call fun v_43 h44 =>
arb (.val (t 0) h44) call fun v_45 h46 =>
arb (.of (lenL v_45) h46) call fun v_47 h48 =>
arb (.of (aBin P .leq 3 (.tmp 9) (.tmp 11) v_43 v_47) h48) call fun v_49 h50 =>
arb (.val v_49 h50) call fun v_51 h52 =>
gd (wantB v_51 true) (fun c => arb (.val (t 2) h52) call c) h52 fun v_53 h54 =>
gd (wantB v_51 true) (fun c => arb (.of (aBin P .geq 3 (.tmp 14) (.const (.int .i64 0)) v_53 (.int .i64 0)) h54) call c) h54 fun v_55 h56 =>
arb (pkR v_51 v_55 (.bool false) h56) call fun v_57 h58 =>
cb v_57 (
k42 .normal (upd (upd (upd (upd (upd (upd (upd (upd t 9 v_43) 10 v_45) 11 v_47) 12 v_49) 13 v_51) 14 v_53) 15 v_55) 16 v_57) h58) (
k42 (.exit 0) (upd (upd (upd (upd (upd (upd (upd (upd t 9 v_43) 10 v_45) 11 v_47) 12 v_49) 13 v_51) 14 v_53) 15 v_55) 16 v_57) h58)

def S_tree_Side (P : Program) (call : FuncId → List AVal → Heap → Res AVal) (fuel : Nat) (p_a0 b_a1 n_a2 : AVal) (h : Heap) : Res AVal :=
lt (retK P [.tmp 6]) fun k =>
arb (.val .nils h) call fun v_0 h1 =>
arb (.val .nils h1) call fun out_2 h3 =>
lt (sqK (J_tree_Side_0 P call fuel k) k) fun k8 =>
arb (.val (.int .i64 0) h3) call fun x_9 h10 =>
lt (blkK 0 k8) fun k11 =>
(loopN (L_tree_Side_1 P call fuel) fuel (upd (upd (upd (enterT [p_a0, b_a1, n_a2]) 6 v_0) 7 out_2) 8 x_9) h10).bind (lpK k11)
theorem E_tree_Side (call : FuncId → List AVal → Heap → Res AVal) (fuel : Nat) (p_a0 b_a1 n_a2 : AVal) (h : Heap) : bodyR Try.prog call fuel Try.f30 [p_a0, b_a1, n_a2] h = S_tree_Side Try.prog call fuel p_a0 b_a1 n_a2 h := by kernel_rfl
theorem R_tree_Side {X : XTab} (p_a0 b_a1 n_a2 : AVal) {h : Heap} {Q : AVal → Heap → Prop} (hx : X F_tree_Side [p_a0, b_a1, n_a2] = none) (q : Tells (fun m => S_tree_Side Try.prog (acallX Try.prog X m) m p_a0 b_a1 n_a2 h) Q) :
    Tells (fun m => acallX Try.prog X m F_tree_Side [p_a0, b_a1, n_a2] h) Q :=
  Tells.later (q.le fun m => (E_tree_Side (acallX Try.prog X m) m p_a0 b_a1 n_a2 h) ▸ acallX_le Try.func30 hx m h)

/-! ### precentor/tree.Right -/
def J_tree_Right_0 (P : Program) (call : FuncId → List AVal → Heap → Res AVal) (fuel : Nat) (k : Kn (AVal)) (t : T) (h : Heap) : Res (AVal) :=
arb (.val (t 0) h) call fun v_2 h3 =>
arb (.of (lenL v_2) h3) call fun v_4 h5 =>
arb (.of (aBin P .leq 3 (.tmp 21) (.const (.int .i64 7)) v_4 (.int .i64 7)) h5) call fun v_6 h7 =>
arb (.val v_6 h7) call fun v_8 h9 =>
k .ret (upd (upd (upd (upd t 20 v_2) 21 v_4) 22 v_6) 2 v_8) h9

def J_tree_Right_3 (P : Program) (call : FuncId → List AVal → Heap → Res AVal) (fuel : Nat) (k : Kn (Ex × T)) (t : T) (h : Heap) : Res (Ex × T) :=
arb (.of (aBin P .add 3 (.tmp 7) (.const (.int .i64 1)) (t 7) (.int .i64 1)) h) call fun v_20 h21 =>
arb (.val v_20 h21) call fun v_22 h23 =>
k .normal (upd (upd t 19 v_20) 7 v_22) h23

def J_tree_Right_2 (P : Program) (call : FuncId → List AVal → Heap → Res AVal) (fuel : Nat) (k : Kn (Ex × T)) (t : T) (h : Heap) : Res (Ex × T) :=
lt (sqK (J_tree_Right_3 P call fuel k) k) fun k24 =>
lt (blkK 1 k24) fun k25 =>
arb (.val (t 7) h) call fun v_26 h27 =>
arb (.of (ixsR 1 (t 5) (t 7)) h27) call fun v_28 h29 =>
arb (.of (ld1 h29 v_28) h29) call fun v_30 h31 =>
arb (.val v_26 h31) call fun i_32 h33 =>
arb (.val v_30 h33) call fun x_34 h35 =>
arb (.val x_34 h35) call fun v_36 h37 =>
arb (.of (aBin P .lss 3 (.tmp 12) (.const (.int .i64 0)) v_36 (.int .i64 0)) h37) call fun v_38 h39 =>
arb (.val v_38 h39) call fun v_40 h41 =>
gd (wantB v_40 false) (fun c => arb (.val x_34 h41) call c) h41 fun v_42 h43 =>
gd (wantB v_40 false) (fun c => arb (.val i_32 h43) call c) h43 fun v_44 h45 =>
gd (wantB v_40 false) (fun c => arb (.of (aBin P .gtr 3 (.tmp 15) (.tmp 16) v_42 v_44) h45) call c) h45 fun v_46 h47 =>
arb (pkR v_40 (.bool true) v_46 h47) call fun v_48 h49 =>
cb v_48 (
arb (.val (.bool false) h49) call fun v_50 h51 =>
k25 .ret (upd (upd (upd (upd (upd (upd (upd (upd (upd (upd (upd (upd (upd t 9 v_26) 10 v_28) 11 v_30) 3 i_32) 4 x_34) 12 v_36) 13 v_38) 14 v_40) 15 v_42) 16 v_44) 17 v_46) 18 v_48) 2 v_50) h51) (
k25 .normal (upd (upd (upd (upd (upd (upd (upd (upd (upd (upd (upd (upd t 9 v_26) 10 v_28) 11 v_30) 3 i_32) 4 x_34) 12 v_36) 13 v_38) 14 v_40) 15 v_42) 16 v_44) 17 v_46) 18 v_48) h49)

def L_tree_Right_1 (P : Program) (call : FuncId → List AVal → Heap → Res AVal) (fuel : Nat) (t : T) (h : Heap) : Res (Ex × T) :=
lt okK fun k =>
arb (.of (aBin P .lss 3 (.tmp 7) (.tmp 6) (t 7) (t 6)) h) call fun v_18 h19 =>
lt (sqK (J_tree_Right_2 P call fuel k) k) fun k52 =>
cb v_18 (
k52 .normal (upd t 8 v_18) h19) (
k52 (.exit 0) (upd t 8 v_18) h19)

def S_tree_Right (P : Program) (call : FuncId → List AVal → Heap → Res AVal) (fuel : Nat) (p_a0 : AVal) (h : Heap) : Res AVal :=
lt (retK P [.tmp 2]) fun k =>
arb (.val (.bool false) h) call fun v_0 h1 =>
lt (sqK (J_tree_Right_0 P call fuel k) k) fun k10 =>
arb (.val p_a0 h1) call fun v_11 h12 =>
arb (.of (lenL v_11) h12) call fun v_13 h14 =>
arb (.val (.int .i64 0) h14) call fun v_15 h16 =>
lt (blkK 0 k10) fun k17 =>
(loopN (L_tree_Right_1 P call fuel) fuel (upd (upd (upd (upd (enterT [p_a0]) 2 v_0) 5 v_11) 6 v_13) 7 v_15) h16).bind (lpK k17)
theorem E_tree_Right (call : FuncId → List AVal → Heap → Res AVal) (fuel : Nat) (p_a0 : AVal) (h : Heap) : bodyR Try.prog call fuel Try.f31 [p_a0] h = S_tree_Right Try.prog call fuel p_a0 h := by kernel_rfl
theorem R_tree_Right {X : XTab} (p_a0 : AVal) {h : Heap} {Q : AVal → Heap → Prop} (hx : X F_tree_Right [p_a0] = none) (q : Tells (fun m => S_tree_Right Try.prog (acallX Try.prog X m) m p_a0 h) Q) :
    Tells (fun m => acallX Try.prog X m F_tree_Right [p_a0] h) Q :=
  Tells.later (q.le fun m => (E_tree_Right (acallX Try.prog X m) m p_a0 h) ▸ acallX_le Try.func31 hx m h)

/-! ### precentor/tree.Kids -/
def J_tree_Kids_1 (P : Program) (call : FuncId → List AVal → Heap → Res AVal) (fuel : Nat) (k : Kn (AVal)) (t : T) (h : Heap) : Res (AVal) :=
arb (.val (t 5) h) call fun v_4 h5 =>
arb (.val v_4 h5) call fun v_6 h7 =>
k .ret (upd (upd t 29 v_4) 4 v_6) h7

def J_tree_Kids_4 (P : Program) (call : FuncId → List AVal → Heap → Res AVal) (fuel : Nat) (k : Kn (Ex × T)) (t : T) (h : Heap) : Res (Ex × T) :=
arb (.of (aBin P .add 3 (.tmp 15) (.const (.int .i64 1)) (t 15) (.int .i64 1)) h) call fun v_18 h19 =>
arb (.val v_18 h19) call fun v_20 h21 =>
k .normal (upd (upd t 28 v_18) 15 v_20) h21

def J_tree_Kids_3 (P : Program) (call : FuncId → List AVal → Heap → Res AVal) (fuel : Nat) (k : Kn (Ex × T)) (t : T) (h : Heap) : Res (Ex × T) :=
lt (sqK (J_tree_Kids_4 P call fuel k) k) fun k22 =>
lt (blkK 1 k22) fun k23 =>
arb (.val (t 15) h) call fun v_24 h25 =>
arb (.of (ixsR 1 (t 13) (t 15)) h25) call fun v_26 h27 =>
arb (.of (ld1 h27 v_26) h27) call fun v_28 h29 =>
arb (.val v_24 h29) call fun i_30 h31 =>
arb (.val v_28 h31) call fun x_32 h33 =>
arb (.val x_32 h33) call fun v_34 h35 =>
arb (.val (t 1) h35) call fun v_36 h37 =>
arb (.of (aBin P .eql 3 (.tmp 20) (.tmp 21) v_34 v_36) h37) call fun v_38 h39 =>
cb v_38 (
arb (.val (t 5) h39) call fun v_40 h41 =>
arb (.val i_30 h41) call fun v_42 h43 =>
arb (.of (aBin P .add 3 (.tmp 24) (.const (.int .i64 1)) v_42 (.int .i64 1)) h43) call fun v_44 h45 =>
arb (bslR 1 [(.int .i64 0)] 1 h45 [(0, 1, v_44)]) call fun v_46 h47 =>
arb (appR 1 8 h47 v_40 v_46) call fun v_48 h49 =>
arb (.val v_48 h49) call fun out_50 h51 =>
k23 .normal (upd (upd (upd (upd (upd (upd (upd (upd (upd (upd (upd (upd (upd (upd t 17 v_24) 18 v_26) 19 v_28) 6 i_30) 7 x_32) 20 v_34) 21 v_36) 22 v_38) 23 v_40) 24 v_42) 25 v_44) 26 v_46) 27 v_48) 5 out_50) h51) (
k23 .normal (upd (upd (upd (upd (upd (upd (upd (upd t 17 v_24) 18 v_26) 19 v_28) 6 i_30) 7 x_32) 20 v_34) 21 v_36) 22 v_38) h39)

def L_tree_Kids_2 (P : Program) (call : FuncId → List AVal → Heap → Res AVal) (fuel : Nat) (t : T) (h : Heap) : Res (Ex × T) :=
lt okK fun k =>
arb (.of (aBin P .lss 3 (.tmp 15) (.tmp 14) (t 15) (t 14)) h) call fun v_16 h17 =>
lt (sqK (J_tree_Kids_3 P call fuel k) k) fun k52 =>
cb v_16 (
k52 .normal (upd t 16 v_16) h17) (
k52 (.exit 0) (upd t 16 v_16) h17)

def J_tree_Kids_0 (P : Program) (call : FuncId → List AVal → Heap → Res AVal) (fuel : Nat) (k : Kn (AVal)) (t : T) (h : Heap) : Res (AVal) :=
lt (sqK (J_tree_Kids_1 P call fuel k) k) fun k8 =>
arb (.val (t 0) h) call fun v_9 h10 =>
arb (.of (lenL v_9) h10) call fun v_11 h12 =>
arb (.val (.int .i64 0) h12) call fun v_13 h14 =>
lt (blkK 0 k8) fun k15 =>
(loopN (L_tree_Kids_2 P call fuel) fuel (upd (upd (upd t 13 v_9) 14 v_11) 15 v_13) h14).bind (lpK k15)

def S_tree_Kids (P : Program) (call : FuncId → List AVal → Heap → Res AVal) (fuel : Nat) (p_a0 b_a1 : AVal) (h : Heap) : Res AVal :=
lt (retK P [.tmp 4]) fun k =>
arb (.val .nils h) call fun v_0 h1 =>
arb (.val .nils h1) call fun out_2 h3 =>
lt (sqK (J_tree_Kids_0 P call fuel k) k) fun k53 =>
arb (.val p_a0 h3) call fun v_54 h55 =>
arb (.val b_a1 h55) call fun v_56 h57 =>
arb (.call F_tree_is [v_54, v_56] h57) call fun v_58 h59 =>
arb (.of (aUn P .not v_58) h59) call fun v_60 h61 =>
cb v_60 (
arb (.val out_2 h61) call fun v_62 h63 =>
arb (.val v_62 h63) call fun v_64 h65 =>
k53 .ret (upd (upd (upd (upd (upd (upd (upd (upd (enterT [p_a0, b_a1]) 4 v_0) 5 out_2) 8 v_54) 9 v_56) 10 v_58) 11 v_60) 12 v_62) 4 v_64) h65) (
k53 .normal (upd (upd (upd (upd (upd (upd (enterT [p_a0, b_a1]) 4 v_0) 5 out_2) 8 v_54) 9 v_56) 10 v_58) 11 v_60) h61)
theorem E_tree_Kids (call : FuncId → List AVal → Heap → Res AVal) (fuel : Nat) (p_a0 b_a1 : AVal) (h : Heap) : bodyR Try.prog call fuel Try.f32 [p_a0, b_a1] h = S_tree_Kids Try.prog call fuel p_a0 b_a1 h := by kernel_rfl
theorem R_tree_Kids {X : XTab} (p_a0 b_a1 : AVal) {h : Heap} {Q : AVal → Heap → Prop} (hx : X F_tree_Kids [p_a0, b_a1] = none) (q : Tells (fun m => S_tree_Kids Try.prog (acallX Try.prog X m) m p_a0 b_a1 h) Q) :
    Tells (fun m => acallX Try.prog X m F_tree_Kids [p_a0, b_a1] h) Q :=
  Tells.later (q.le fun m => (E_tree_Kids (acallX Try.prog X m) m p_a0 b_a1 h) ▸ acallX_le Try.func32 hx m h)

/-! ### precentor/tree.is -/

def S_tree_is (P : Program) (call : FuncId → List AVal → Heap → Res AVal) (fuel : Nat) (p_a0 b_a1 : AVal) (h : Heap) : Res AVal :=
lt (retK P [.tmp 4]) fun k =>
arb (.val (.bool false) h) call fun v_0 h1 =>
arb (.val p_a0 h1) call fun v_2 h3 =>
arb (.call F_tree_Right [v_2] h3) call fun v_4 h5 =>
arb (.val v_4 h5) call fun v_6 h7 =>
gd (wantB v_6 true) (fun c => arb (.val b_a1 h7) call c) h7 fun v_8 h9 =>
gd (wantB v_6 true) (fun c => arb (.of (aBin P .geq 3 (.tmp 8) (.const (.int .i64 0)) v_8 (.int .i64 0)) h9) call c) h9 fun v_10 h11 =>
arb (pkR v_6 v_10 (.bool false) h11) call fun v_12 h13 =>
arb (.val v_12 h13) call fun v_14 h15 =>
gd (wantB v_14 true) (fun c => arb (.val b_a1 h15) call c) h15 fun v_16 h17 =>
gd (wantB v_14 true) (fun c => arb (.val p_a0 h17) call c) h17 fun v_18 h19 =>
gd (wantB v_14 true) (fun c => arb (.of (lenL v_18) h19) call c) h19 fun v_20 h21 =>
gd (wantB v_14 true) (fun c => arb (.of (aBin P .leq 3 (.tmp 12) (.tmp 14) v_16 v_20) h21) call c) h21 fun v_22 h23 =>
arb (pkR v_14 v_22 (.bool false) h23) call fun v_24 h25 =>
arb (.val v_24 h25) call fun v_26 h27 =>
k .ret (upd (upd (upd (upd (upd (upd (upd (upd (upd (upd (upd (upd (upd (upd (enterT [p_a0, b_a1]) 4 v_0) 5 v_2) 6 v_4) 7 v_6) 8 v_8) 9 v_10) 10 v_12) 11 v_14) 12 v_16) 13 v_18) 14 v_20) 15 v_22) 16 v_24) 4 v_26) h27
theorem E_tree_is (call : FuncId → List AVal → Heap → Res AVal) (fuel : Nat) (p_a0 b_a1 : AVal) (h : Heap) : bodyR Try.prog call fuel Try.f39 [p_a0, b_a1] h = S_tree_is Try.prog call fuel p_a0 b_a1 h := by kernel_rfl
theorem R_tree_is {X : XTab} (p_a0 b_a1 : AVal) {h : Heap} {Q : AVal → Heap → Prop} (hx : X F_tree_is [p_a0, b_a1] = none) (q : Tells (fun m => S_tree_is Try.prog (acallX Try.prog X m) m p_a0 b_a1 h) Q) :
    Tells (fun m => acallX Try.prog X m F_tree_is [p_a0, b_a1] h) Q :=
  Tells.later (q.le fun m => (E_tree_is (acallX Try.prog X m) m p_a0 b_a1 h) ▸ acallX_le Try.func39 hx m h)

/-! ### precentor/tree.path -/
def J_tree_path_1 (P : Program) (call : FuncId → List AVal → Heap → Res AVal) (fuel : Nat) (k : Kn (AVal)) (t : T) (h : Heap) : Res (AVal) :=
arb (.val (t 7) h) call fun v_18 h19 =>
arb (.val v_18 h19) call fun v_20 h21 =>
k .ret (upd (upd t 63 v_18) 6 v_20) h21

def J_tree_path_4 (P : Program) (call : FuncId → List AVal → Heap → Res AVal) (fuel : Nat) (k : Kn (Ex × T)) (t : T) (h : Heap) : Res (Ex × T) :=
arb (.val (t 9) h) call fun v_32 h33 =>
arb (.of (aBin P .sub 3 (.tmp 54) (.const (.int .i64 1)) v_32 (.int .i64 1)) h33) call fun v_34 h35 =>
arb (.val v_34 h35) call fun i_36 h37 =>
k .normal (upd (upd (upd t 54 v_32) 55 v_34) 9 i_36) h37

def J_tree_path_3 (P : Program) (call : FuncId → List AVal → Heap → Res AVal) (fuel : Nat) (k : Kn (Ex × T)) (t : T) (h : Heap) : Res (Ex × T) :=
lt (sqK (J_tree_path_4 P call fuel k) k) fun k38 =>
lt (blkK 3 k38) fun k39 =>
arb (.val (t 7) h) call fun v_40 h41 =>
arb (.val (t 8) h41) call fun v_42 h43 =>
arb (.val (t 9) h43) call fun v_44 h45 =>
arb (.of (ixsR 1 v_42 v_44) h45) call fun v_46 h47 =>
arb (.of (ld1 h47 v_46) h47) call fun v_48 h49 =>
arb (bslR 1 [(.int .i64 0)] 1 h49 [(0, 1, v_48)]) call fun v_50 h51 =>
arb (appR 1 8 h51 v_40 v_50) call fun v_52 h53 =>
arb (.val v_52 h53) call fun a_54 h55 =>
k39 .normal (upd (upd (upd (upd (upd (upd (upd (upd t 56 v_40) 57 v_42) 58 v_44) 59 v_46) 60 v_48) 61 v_50) 62 v_52) 7 a_54) h55

def L_tree_path_2 (P : Program) (call : FuncId → List AVal → Heap → Res AVal) (fuel : Nat) (t : T) (h : Heap) : Res (Ex × T) :=
lt okK fun k =>
lt (sqK (J_tree_path_3 P call fuel k) k) fun k56 =>
arb (.val (t 9) h) call fun v_57 h58 =>
arb (.of (aBin P .geq 3 (.tmp 52) (.const (.int .i64 0)) v_57 (.int .i64 0)) h58) call fun v_59 h60 =>
cb v_59 (
k56 .normal (upd (upd t 52 v_57) 53 v_59) h60) (
k56 (.exit 2) (upd (upd t 52 v_57) 53 v_59) h60)

def J_tree_path_0 (P : Program) (call : FuncId → List AVal → Heap → Res AVal) (fuel : Nat) (k : Kn (AVal)) (t : T) (h : Heap) : Res (AVal) :=
lt (sqK (J_tree_path_1 P call fuel k) k) fun k22 =>
arb (.val (t 8) h) call fun v_23 h24 =>
arb (.of (lenL v_23) h24) call fun v_25 h26 =>
arb (.of (aBin P .sub 3 (.tmp 50) (.const (.int .i64 2)) v_25 (.int .i64 2)) h26) call fun v_27 h28 =>
arb (.val v_27 h28) call fun i_29 h30 =>
lt (blkK 2 k22) fun k31 =>
(loopN (L_tree_path_2 P call fuel) fuel (upd (upd (upd (upd t 49 v_23) 50 v_25) 51 v_27) 9 i_29) h30).bind (lpK k31)

def J_tree_path_6 (P : Program) (call : FuncId → List AVal → Heap → Res AVal) (fuel : Nat) (k : Kn (Ex × T)) (t : T) (h : Heap) : Res (Ex × T) :=
lt (blkK 1 k) fun k63 =>
obv (.val (t 7) h) fun v_64 =>
obv (.val (t 7) h) fun v_65 =>
obv (.of (lenL v_65) h) fun v_66 =>
obv (.of (aBin P .sub 3 (.tmp 41) (.const (.int .i64 1)) v_66 (.int .i64 1)) h) fun v_67 =>
obv (.of (slcR 1 v_64 none (some v_67) none) h) fun v_68 =>
obv (.val (t 8) h) fun v_69 =>
obv (.val (t 8) h) fun v_70 =>
obv (.of (lenL v_70) h) fun v_71 =>
obv (.of (aBin P .sub 3 (.tmp 46) (.const (.int .i64 1)) v_71 (.int .i64 1)) h) fun v_72 =>
obv (.of (slcR 1 v_69 none (some v_72) none) h) fun v_73 =>
obv (.val v_68 h) fun a_74 =>
obv (.val v_73 h) fun b_75 =>
k63 .normal (upd (upd (upd (upd (upd (upd (upd (upd (upd (upd (upd (upd t 39 v_64) 40 v_65) 41 v_66) 42 v_67) 43 v_68) 44 v_69) 45 v_70) 46 v_71) 47 v_72) 48 v_73) 7 a_74) 8 b_75) h

def L_tree_path_5 (P : Program) (call : FuncId → List AVal → Heap → Res AVal) (fuel : Nat) (t : T) (h : Heap) : Res (Ex × T) :=
lt okK fun k =>
lt (sqK (J_tree_path_6 P call fuel k) k) fun k76 =>
obv (.val (t 7) h) fun v_77 =>
obv (.of (lenL v_77) h) fun v_78 =>
obv (.of (aBin P .gtr 3 (.tmp 17) (.const (.int .i64 1)) v_78 (.int .i64 1)) h) fun v_79 =>
obv (.val v_79 h) fun v_80 =>
gd (wantB v_80 true) (fun c => obv (.val (t 8) h) fun v => c v h) h fun v_81 h82 =>
gd (wantB v_80 true) (fun c => obv (.of (lenL v_81) h82) fun v => c v h82) h82 fun v_83 h84 =>
gd (wantB v_80 true) (fun c => obv (.of (aBin P .gtr 3 (.tmp 21) (.const (.int .i64 1)) v_83 (.int .i64 1)) h84) fun v => c v h84) h84 fun v_85 h86 =>
obv (pkR v_80 v_85 (.bool false) h86) fun v_87 =>
obv (.val v_87 h86) fun v_88 =>
gd (wantB v_88 true) (fun c => obv (.val (t 7) h86) fun v => c v h86) h86 fun v_89 h90 =>
gd (wantB v_88 true) (fun c => obv (.val (t 7) h90) fun v => c v h90) h90 fun v_91 h92 =>
gd (wantB v_88 true) (fun c => obv (.of (lenL v_91) h92) fun v => c v h92) h92 fun v_93 h94 =>
gd (wantB v_88 true) (fun c => obv (.of (aBin P .sub 3 (.tmp 27) (.const (.int .i64 2)) v_93 (.int .i64 2)) h94) fun v => c v h94) h94 fun v_95 h96 =>
gd (wantB v_88 true) (fun c => obv (.of (ixsR 1 v_89 v_95) h96) fun v => c v h96) h96 fun v_97 h98 =>
gd (wantB v_88 true) (fun c => obv (.of (ld1 h98 v_97) h98) fun v => c v h98) h98 fun v_99 h100 =>
gd (wantB v_88 true) (fun c => obv (.val (t 8) h100) fun v => c v h100) h100 fun v_101 h102 =>
gd (wantB v_88 true) (fun c => obv (.val (t 8) h102) fun v => c v h102) h102 fun v_103 h104 =>
gd (wantB v_88 true) (fun c => obv (.of (lenL v_103) h104) fun v => c v h104) h104 fun v_105 h106 =>
gd (wantB v_88 true) (fun c => obv (.of (aBin P .sub 3 (.tmp 33) (.const (.int .i64 2)) v_105 (.int .i64 2)) h106) fun v => c v h106) h106 fun v_107 h108 =>
gd (wantB v_88 true) (fun c => obv (.of (ixsR 1 v_101 v_107) h108) fun v => c v h108) h108 fun v_109 h110 =>
gd (wantB v_88 true) (fun c => obv (.of (ld1 h110 v_109) h110) fun v => c v h110) h110 fun v_111 h112 =>
gd (wantB v_88 true) (fun c => obv (.of (aBin P .eql 3 (.tmp 30) (.tmp 36) v_99 v_111) h112) fun v => c v h112) h112 fun v_113 h114 =>
obv (pkR v_88 v_113 (.bool false) h114) fun v_115 =>
cb v_115 (
k76 .normal (upd (upd (upd (upd (upd (upd (upd (upd (upd (upd (upd (upd (upd (upd (upd (upd (upd (upd (upd (upd (upd (upd (upd t 16 v_77) 17 v_78) 18 v_79) 19 v_80) 20 v_81) 21 v_83) 22 v_85) 23 v_87) 24 v_88) 25 v_89) 26 v_91) 27 v_93) 28 v_95) 29 v_97) 30 v_99) 31 v_101) 32 v_103) 33 v_105) 34 v_107) 35 v_109) 36 v_111) 37 v_113) 38 v_115) h114) (
k76 (.exit 0) (upd (upd (upd (upd (upd (upd (upd (upd (upd (upd (upd (upd (upd (upd (upd (upd (upd (upd (upd (upd (upd (upd (upd t 16 v_77) 17 v_78) 18 v_79) 19 v_80) 20 v_81) 21 v_83) 22 v_85) 23 v_87) 24 v_88) 25 v_89) 26 v_91) 27 v_93) 28 v_95) 29 v_97) 30 v_99) 31 v_101) 32 v_103) 33 v_105) 34 v_107) 35 v_109) 36 v_111) 37 v_113) 38 v_115) h114)

def S_tree_path (P : Program) (call : FuncId → List AVal → Heap → Res AVal) (fuel : Nat) (p_a0 from_a1 to_a2 : AVal) (h : Heap) : Res AVal :=
lt (retK P [.tmp 6]) fun k =>
arb (.val .nils h) call fun v_0 h1 =>
arb (.val p_a0 h1) call fun v_2 h3 =>
arb (.val from_a1 h3) call fun v_4 h5 =>
arb (.call F_tree_up [v_2, v_4] h5) call fun v_6 h7 =>
arb (.val p_a0 h7) call fun v_8 h9 =>
arb (.val to_a2 h9) call fun v_10 h11 =>
arb (.call F_tree_up [v_8, v_10] h11) call fun v_12 h13 =>
arb (.val v_6 h13) call fun a_14 h15 =>
arb (.val v_12 h15) call fun b_16 h17 =>
lt (sqK (J_tree_path_0 P call fuel k) k) fun k61 =>
lt (blkK 0 k61) fun k62 =>
(loopN (L_tree_path_5 P call fuel) fuel (upd (upd (upd (upd (upd (upd (upd (upd (upd (enterT [p_a0, from_a1, to_a2]) 6 v_0) 10 v_2) 11 v_4) 12 v_6) 13 v_8) 14 v_10) 15 v_12) 7 a_14) 8 b_16) h17).bind (lpK k62)
theorem E_tree_path (call : FuncId → List AVal → Heap → Res AVal) (fuel : Nat) (p_a0 from_a1 to_a2 : AVal) (h : Heap) : bodyR Try.prog call fuel Try.f40 [p_a0, from_a1, to_a2] h = S_tree_path Try.prog call fuel p_a0 from_a1 to_a2 h := by kernel_rfl
theorem R_tree_path {X : XTab} (p_a0 from_a1 to_a2 : AVal) {h : Heap} {Q : AVal → Heap → Prop} (hx : X F_tree_path [p_a0, from_a1, to_a2] = none) (q : Tells (fun m => S_tree_path Try.prog (acallX Try.prog X m) m p_a0 from_a1 to_a2 h) Q) :
    Tells (fun m => acallX Try.prog X m F_tree_path [p_a0, from_a1, to_a2] h) Q :=
  Tells.later (q.le fun m => (E_tree_path (acallX Try.prog X m) m p_a0 from_a1 to_a2 h) ▸ acallX_le Try.func40 hx m h)

/-! ### precentor/tree.up -/
def J_tree_up_0 (P : Program) (call : FuncId → List AVal → Heap → Res AVal) (fuel : Nat) (k : Kn (AVal)) (t : T) (h : Heap) : Res (AVal) :=
arb (.val (t 5) h) call fun v_8 h9 =>
arb (.val v_8 h9) call fun v_10 h11 =>
k .ret (upd (upd t 19 v_8) 4 v_10) h11

def J_tree_up_2 (P : Program) (call : FuncId → List AVal → Heap → Res AVal) (fuel : Nat) (k : Kn (Ex × T)) (t : T) (h : Heap) : Res (Ex × T) :=
lt (blkK 1 k) fun k14 =>
arb (.val (t 0) h) call fun v_15 h16 =>
arb (.val (t 1) h16) call fun v_17 h18 =>
arb (.of (aBin P .sub 3 (.tmp 11) (.const (.int .i64 1)) v_17 (.int .i64 1)) h18) call fun v_19 h20 =>
arb (.of (ixsR 1 v_15 v_19) h20) call fun v_21 h22 =>
arb (.of (ld1 h22 v_21) h22) call fun v_23 h24 =>
arb (.val v_23 h24) call fun b_25 h26 =>
arb (.val (t 5) h26) call fun v_27 h28 =>
arb (.val b_25 h28) call fun v_29 h30 =>
arb (bslR 1 [(.int .i64 0)] 1 h30 [(0, 1, v_29)]) call fun v_31 h32 =>
arb (appR 1 8 h32 v_27 v_31) call fun v_33 h34 =>
arb (.val v_33 h34) call fun way_35 h36 =>
k14 .normal (upd (upd (upd (upd (upd (upd (upd (upd (upd (upd (upd t 10 v_15) 11 v_17) 12 v_19) 13 v_21) 14 v_23) 1 b_25) 15 v_27) 16 v_29) 17 v_31) 18 v_33) 5 way_35) h36

def L_tree_up_1 (P : Program) (call : FuncId → List AVal → Heap → Res AVal) (fuel : Nat) (t : T) (h : Heap) : Res (Ex × T) :=
lt okK fun k =>
lt (sqK (J_tree_up_2 P call fuel k) k) fun k37 =>
arb (.val (t 1) h) call fun v_38 h39 =>
arb (.of (aBin P .gtr 3 (.tmp 8) (.const (.int .i64 0)) v_38 (.int .i64 0)) h39) call fun v_40 h41 =>
cb v_40 (
k37 .normal (upd (upd t 8 v_38) 9 v_40) h41) (
k37 (.exit 0) (upd (upd t 8 v_38) 9 v_40) h41)

def S_tree_up (P : Program) (call : FuncId → List AVal → Heap → Res AVal) (fuel : Nat) (p_a0 b_a1 : AVal) (h : Heap) : Res AVal :=
lt (retK P [.tmp 4]) fun k =>
arb (.val .nils h) call fun v_0 h1 =>
arb (.val b_a1 h1) call fun v_2 h3 =>
arb (bslR 1 [(.int .i64 0)] 1 h3 [(0, 1, v_2)]) call fun v_4 h5 =>
arb (.val v_4 h5) call fun way_6 h7 =>
lt (sqK (J_tree_up_0 P call fuel k) k) fun k12 =>
lt (blkK 0 k12) fun k13 =>
(loopN (L_tree_up_1 P call fuel) fuel (upd (upd (upd (upd (enterT [p_a0, b_a1]) 4 v_0) 6 v_2) 7 v_4) 5 way_6) h7).bind (lpK k13)
theorem E_tree_up (call : FuncId → List AVal → Heap → Res AVal) (fuel : Nat) (p_a0 b_a1 : AVal) (h : Heap) : bodyR Try.prog call fuel Try.f43 [p_a0, b_a1] h = S_tree_up Try.prog call fuel p_a0 b_a1 h := by kernel_rfl
theorem R_tree_up {X : XTab} (p_a0 b_a1 : AVal) {h : Heap} {Q : AVal → Heap → Prop} (hx : X F_tree_up [p_a0, b_a1] = none) (q : Tells (fun m => S_tree_up Try.prog (acallX Try.prog X m) m p_a0 b_a1 h) Q) :
    Tells (fun m => acallX Try.prog X m F_tree_up [p_a0, b_a1] h) Q :=
  Tells.later (q.le fun m => (E_tree_up (acallX Try.prog X m) m p_a0 b_a1 h) ▸ acallX_le Try.func43 hx m h)


end Go.Proofs.Ytchmlbjjadlleaa
