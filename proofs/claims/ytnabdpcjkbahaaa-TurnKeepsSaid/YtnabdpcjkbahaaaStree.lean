/-
  Functions of tree in the form of YtnabdpcjkbahaaaABS (printed by a program of ours, gen.lean).
-/
import Derived.Test.YtnabdpcjkbahaaaSIds
set_option linter.unusedVariables false
namespace Go.Proofs.Ytnabdpcjkbahaaa
open Go.Ab
/-! ### precentor/tree.Right -/
def J_tree_Right_0 (P : Program) (call : FuncId → List AVal → Heap → Res AVal) (fuel : Nat) (k : Kn (AVal)) (t : T) (h : Heap) : Res (AVal) :=
arb (.val (t 0) h) call fun v_2 h3 =>
arb (.of (lenL v_2) h3) call fun v_4 h5 =>
arb (.of (aBin P .leq 3 (.tmp 21) (.const (.int .i64 7)) v_4 (.int .i64 7)) h5) call fun v_6 h7 =>
arb (.val v_6 h7) call fun v_8 h9 =>
k .ret (upd (upd (upd (upd t 20 v_2) 21 v_4) 22 v_6) 2 v_8) h9

def J_tree_Right_3 (P : Program) (call : FuncId → List AVal → Heap → Res AVal) (fuel : Nat) (k : Kn (Ex × T)) (t : T) (h : Heap) : Res (Ex × T) :=
arb (.of (aBin P .add 3 (.tmp 7) (.const (.int .i64 1)) (t 7) (.int .i64 1)) h) call fun v_20 h21 =>
arb (.val v_20 h21) call fun v_22 h23 =>
k .normal (upd (upd t 19 v_20) 7 v_22) h23

def J_tree_Right_2 (P : Program) (call : FuncId → List AVal → Heap → Res AVal) (fuel : Nat) (k : Kn (Ex × T)) (t : T) (h : Heap) : Res (Ex × T) :=
lt (sqK (J_tree_Right_3 P call fuel k) k) fun k24 =>
lt (blkK 1 k24) fun k25 =>
arb (.val (t 7) h) call fun v_26 h27 =>
arb (.of (ixsR 1 (t 5) (t 7)) h27) call fun v_28 h29 =>
arb (.of (ld1 h29 v_28) h29) call fun v_30 h31 =>
arb (.val v_26 h31) call fun i_32 h33 =>
arb (.val v_30 h33) call fun x_34 h35 =>
arb (.val x_34 h35) call fun v_36 h37 =>
arb (.of (aBin P .lss 3 (.tmp 12) (.const (.int .i64 0)) v_36 (.int .i64 0)) h37) call fun v_38 h39 =>
arb (.val v_38 h39) call fun v_40 h41 =>
gd (wantB v_40 false) (fun c => arb (.val x_34 h41) call c) h41 fun v_42 h43 =>
gd (wantB v_40 false) (fun c => arb (.val i_32 h43) call c) h43 fun v_44 h45 =>
gd (wantB v_40 false) (fun c => arb (.of (aBin P .gtr 3 (.tmp 15) (.tmp 16) v_42 v_44) h45) call c) h45 fun v_46 h47 =>
arb (pkR v_40 (.bool true) v_46 h47) call fun v_48 h49 =>
cb v_48 (
arb (.val (.bool false) h49) call fun v_50 h51 =>
k25 .ret (upd (upd (upd (upd (upd (upd (upd (upd (upd (upd (upd (upd (upd t 9 v_26) 10 v_28) 11 v_30) 3 i_32) 4 x_34) 12 v_36) 13 v_38) 14 v_40) 15 v_42) 16 v_44) 17 v_46) 18 v_48) 2 v_50) h51) (
k25 .normal (upd (upd (upd (upd (upd (upd (upd (upd (upd (upd (upd (upd t 9 v_26) 10 v_28) 11 v_30) 3 i_32) 4 x_34) 12 v_36) 13 v_38) 14 v_40) 15 v_42) 16 v_44) 17 v_46) 18 v_48) h49)

def L_tree_Right_1 (P : Program) (call : FuncId → List AVal → Heap → Res AVal) (fuel : Nat) (t : T) (h : Heap) : Res (Ex × T) :=
lt okK fun k =>
arb (.of (aBin P .lss 3 (.tmp 7) (.tmp 6) (t 7) (t 6)) h) call fun v_18 h19 =>
lt (sqK (J_tree_Right_2 P call fuel k) k) fun k52 =>
cb v_18 (
k52 .normal (upd t 8 v_18) h19) (
k52 (.exit 0) (upd t 8 v_18) h19)

def S_tree_Right (P : Program) (call : FuncId → List AVal → Heap → Res AVal) (fuel : Nat) (p_a0 : AVal) (h : Heap) : Res AVal :=
lt (retK P [.tmp 2]) fun k =>
arb (.val (.bool false) h) call fun v_0 h1 =>
lt (sqK (J_tree_Right_0 P call fuel k) k) fun k10 =>
arb (.val p_a0 h1) call fun v_11 h12 =>
arb (.of (lenL v_11) h12) call fun v_13 h14 =>
arb (.val (.int .i64 0) h14) call fun v_15 h16 =>
lt (blkK 0 k10) fun k17 =>
(loopN (L_tree_Right_1 P call fuel) fuel (upd (upd (upd (upd (enterT [p_a0]) 2 v_0) 5 v_11) 6 v_13) 7 v_15) h16).bind (lpK k17)
theorem E_tree_Right (call : FuncId → List AVal → Heap → Res AVal) (fuel : Nat) (p_a0 : AVal) (h : Heap) : bodyR Try.prog call fuel Try.f14 [p_a0] h = S_tree_Right Try.prog call fuel p_a0 h := by kernel_rfl
theorem R_tree_Right {X : XTab} (p_a0 : AVal) {h : Heap} {Q : AVal → Heap → Prop} (hx : X F_tree_Right [p_a0] = none) (q : Tells (fun m => S_tree_Right Try.prog (acallX Try.prog X m) m p_a0 h) Q) :
    Tells (fun m => acallX Try.prog X m F_tree_Right [p_a0] h) Q :=
  Tells.later (q.le fun m => (E_tree_Right (acallX Try.prog X m) m p_a0 h) ▸ acallX_le Try.func14 hx m h)

/-! ### precentor/tree.Kids -/
def J_tree_Kids_1 (P : Program) (call : FuncId → List AVal → Heap → Res AVal) (fuel : Nat) (k : Kn (AVal)) (t : T) (h : Heap) : Res (AVal) :=
arb (.val (t 5) h) call fun v_4 h5 =>
arb (.val v_4 h5) call fun v_6 h7 =>
k .ret (upd (upd t 29 v_4) 4 v_6) h7

def J_tree_Kids_4 (P : Program) (call : FuncId → List AVal → Heap → Res AVal) (fuel : Nat) (k : Kn (Ex × T)) (t : T) (h : Heap) : Res (Ex × T) :=
arb (.of (aBin P .add 3 (.tmp 15) (.const (.int .i64 1)) (t 15) (.int .i64 1)) h) call fun v_18 h19 =>
arb (.val v_18 h19) call fun v_20 h21 =>
k .normal (upd (upd t 28 v_18) 15 v_20) h21

def J_tree_Kids_3 (P : Program) (call : FuncId → List AVal → Heap → Res AVal) (fuel : Nat) (k : Kn (Ex × T)) (t : T) (h : Heap) : Res (Ex × T) :=
lt (sqK (J_tree_Kids_4 P call fuel k) k) fun k22 =>
lt (blkK 1 k22) fun k23 =>
arb (.val (t 15) h) call fun v_24 h25 =>
arb (.of (ixsR 1 (t 13) (t 15)) h25) call fun v_26 h27 =>
arb (.of (ld1 h27 v_26) h27) call fun v_28 h29 =>
arb (.val v_24 h29) call fun i_30 h31 =>
arb (.val v_28 h31) call fun x_32 h33 =>
arb (.val x_32 h33) call fun v_34 h35 =>
arb (.val (t 1) h35) call fun v_36 h37 =>
arb (.of (aBin P .eql 3 (.tmp 20) (.tmp 21) v_34 v_36) h37) call fun v_38 h39 =>
cb v_38 (
arb (.val (t 5) h39) call fun v_40 h41 =>
arb (.val i_30 h41) call fun v_42 h43 =>
arb (.of (aBin P .add 3 (.tmp 24) (.const (.int .i64 1)) v_42 (.int .i64 1)) h43) call fun v_44 h45 =>
arb (bslR 1 [(.int .i64 0)] 1 h45 [(0, 1, v_44)]) call fun v_46 h47 =>
arb (appR 1 8 h47 v_40 v_46) call fun v_48 h49 =>
arb (.val v_48 h49) call fun out_50 h51 =>
k23 .normal (upd (upd (upd (upd (upd (upd (upd (upd (upd (upd (upd (upd (upd (upd t 17 v_24) 18 v_26) 19 v_28) 6 i_30) 7 x_32) 20 v_34) 21 v_36) 22 v_38) 23 v_40) 24 v_42) 25 v_44) 26 v_46) 27 v_48) 5 out_50) h51) (
k23 .normal (upd (upd (upd (upd (upd (upd (upd (upd t 17 v_24) 18 v_26) 19 v_28) 6 i_30) 7 x_32) 20 v_34) 21 v_36) 22 v_38) h39)

def L_tree_Kids_2 (P : Program) (call : FuncId → List AVal → Heap → Res AVal) (fuel : Nat) (t : T) (h : Heap) : Res (Ex × T) :=
lt okK fun k =>
arb (.of (aBin P .lss 3 (.tmp 15) (.tmp 14) (t 15) (t 14)) h) call fun v_16 h17 =>
lt (sqK (J_tree_Kids_3 P call fuel k) k) fun k52 =>
cb v_16 (
k52 .normal (upd t 16 v_16) h17) (
k52 (.exit 0) (upd t 16 v_16) h17)

def J_tree_Kids_0 (P : Program) (call : FuncId → List AVal → Heap → Res AVal) (fuel : Nat) (k : Kn (AVal)) (t : T) (h : Heap) : Res (AVal) :=
lt (sqK (J_tree_Kids_1 P call fuel k) k) fun k8 =>
arb (.val (t 0) h) call fun v_9 h10 =>
arb (.of (lenL v_9) h10) call fun v_11 h12 =>
arb (.val (.int .i64 0) h12) call fun v_13 h14 =>
lt (blkK 0 k8) fun k15 =>
(loopN (L_tree_Kids_2 P call fuel) fuel (upd (upd (upd t 13 v_9) 14 v_11) 15 v_13) h14).bind (lpK k15)

def S_tree_Kids (P : Program) (call : FuncId → List AVal → Heap → Res AVal) (fuel : Nat) (p_a0 b_a1 : AVal) (h : Heap) : Res AVal :=
lt (retK P [.tmp 4]) fun k =>
arb (.val .nils h) call fun v_0 h1 =>
arb (.val .nils h1) call fun out_2 h3 =>
lt (sqK (J_tree_Kids_0 P call fuel k) k) fun k53 =>
arb (.val p_a0 h3) call fun v_54 h55 =>
arb (.val b_a1 h55) call fun v_56 h57 =>
arb (.call F_tree_is [v_54, v_56] h57) call fun v_58 h59 =>
arb (.of (aUn P .not v_58) h59) call fun v_60 h61 =>
cb v_60 (
arb (.val out_2 h61) call fun v_62 h63 =>
arb (.val v_62 h63) call fun v_64 h65 =>
k53 .ret (upd (upd (upd (upd (upd (upd (upd (upd (enterT [p_a0, b_a1]) 4 v_0) 5 out_2) 8 v_54) 9 v_56) 10 v_58) 11 v_60) 12 v_62) 4 v_64) h65) (
k53 .normal (upd (upd (upd (upd (upd (upd (enterT [p_a0, b_a1]) 4 v_0) 5 out_2) 8 v_54) 9 v_56) 10 v_58) 11 v_60) h61)
theorem E_tree_Kids (call : FuncId → List AVal → Heap → Res AVal) (fuel : Nat) (p_a0 b_a1 : AVal) (h : Heap) : bodyR Try.prog call fuel Try.f15 [p_a0, b_a1] h = S_tree_Kids Try.prog call fuel p_a0 b_a1 h := by kernel_rfl
theorem R_tree_Kids {X : XTab} (p_a0 b_a1 : AVal) {h : Heap} {Q : AVal → Heap → Prop} (hx : X F_tree_Kids [p_a0, b_a1] = none) (q : Tells (fun m => S_tree_Kids Try.prog (acallX Try.prog X m) m p_a0 b_a1 h) Q) :
    Tells (fun m => acallX Try.prog X m F_tree_Kids [p_a0, b_a1] h) Q :=
  Tells.later (q.le fun m => (E_tree_Kids (acallX Try.prog X m) m p_a0 b_a1 h) ▸ acallX_le Try.func15 hx m h)

/-! ### precentor/tree.is -/

def S_tree_is (P : Program) (call : FuncId → List AVal → Heap → Res AVal) (fuel : Nat) (p_a0 b_a1 : AVal) (h : Heap) : Res AVal :=
lt (retK P [.tmp 4]) fun k =>
arb (.val (.bool false) h) call fun v_0 h1 =>
arb (.val p_a0 h1) call fun v_2 h3 =>
arb (.call F_tree_Right [v_2] h3) call fun v_4 h5 =>
arb (.val v_4 h5) call fun v_6 h7 =>
gd (wantB v_6 true) (fun c => arb (.val b_a1 h7) call c) h7 fun v_8 h9 =>
gd (wantB v_6 true) (fun c => arb (.of (aBin P .geq 3 (.tmp 8) (.const (.int .i64 0)) v_8 (.int .i64 0)) h9) call c) h9 fun v_10 h11 =>
arb (pkR v_6 v_10 (.bool false) h11) call fun v_12 h13 =>
arb (.val v_12 h13) call fun v_14 h15 =>
gd (wantB v_14 true) (fun c => arb (.val b_a1 h15) call c) h15 fun v_16 h17 =>
gd (wantB v_14 true) (fun c => arb (.val p_a0 h17) call c) h17 fun v_18 h19 =>
gd (wantB v_14 true) (fun c => arb (.of (lenL v_18) h19) call c) h19 fun v_20 h21 =>
gd (wantB v_14 true) (fun c => arb (.of (aBin P .leq 3 (.tmp 12) (.tmp 14) v_16 v_20) h21) call c) h21 fun v_22 h23 =>
arb (pkR v_14 v_22 (.bool false) h23) call fun v_24 h25 =>
arb (.val v_24 h25) call fun v_26 h27 =>
k .ret (upd (upd (upd (upd (upd (upd (upd (upd (upd (upd (upd (upd (upd (upd (enterT [p_a0, b_a1]) 4 v_0) 5 v_2) 6 v_4) 7 v_6) 8 v_8) 9 v_10) 10 v_12) 11 v_14) 12 v_16) 13 v_18) 14 v_20) 15 v_22) 16 v_24) 4 v_26) h27
theorem E_tree_is (call : FuncId → List AVal → Heap → Res AVal) (fuel : Nat) (p_a0 b_a1 : AVal) (h : Heap) : bodyR Try.prog call fuel Try.f19 [p_a0, b_a1] h = S_tree_is Try.prog call fuel p_a0 b_a1 h := by kernel_rfl
theorem R_tree_is {X : XTab} (p_a0 b_a1 : AVal) {h : Heap} {Q : AVal → Heap → Prop} (hx : X F_tree_is [p_a0, b_a1] = none) (q : Tells (fun m => S_tree_is Try.prog (acallX Try.prog X m) m p_a0 b_a1 h) Q) :
    Tells (fun m => acallX Try.prog X m F_tree_is [p_a0, b_a1] h) Q :=
  Tells.later (q.le fun m => (E_tree_is (acallX Try.prog X m) m p_a0 b_a1 h) ▸ acallX_le Try.func19 hx m h)


end Go.Proofs.Ytnabdpcjkbahaaa
