/-
  Functions of tree in the form of YtagfibiakjiooaaABS (printed by a program of ours, gen.lean).
-/
import Derived.Test.YtagfibiakjiooaaSIds
set_option linter.unusedVariables false
namespace Go.Proofs.Ytagfibiakjiooaa
open Go.Ab
/-! ### precentor/tree.Right -/
def J_tree_Right_0 (P : Program) (call : FuncId → List AVal → Heap → Res AVal) (fuel : Nat) (k : Kn (AVal)) (t : T) (h : Heap) : Res (AVal) :=
arb (.val (t 0) h) call fun v_2 h3 =>
arb (.of (lenL v_2) h3) call fun v_4 h5 =>
arb (.of (aBin P .leq 3 (.tmp 21) (.const (.int .i64 7)) v_4 (.int .i64 7)) h5) call fun v_6 h7 =>
arb (.val v_6 h7) call fun v_8 h9 =>
k .ret (upd (upd (upd (upd t 20 v_2) 21 v_4) 22 v_6) 2 v_8) h9

def J_tree_Right_3 (P : Program) (call : FuncId → List AVal → Heap → Res AVal) (fuel : Nat) (k : Kn (Ex × T)) (t : T) (h : Heap) : Res (Ex × T) :=
arb (.of (aBin P .add 3 (.tmp 7) (.const (.int .i64 1)) (t 7) (.int .i64 1)) h) call fun v_20 h21 =>
arb (.val v_20 h21) call fun v_22 h23 =>
k .normal (upd (upd t 19 v_20) 7 v_22) h23

def J_tree_Right_2 (P : Program) (call : FuncId → List AVal → Heap → Res AVal) (fuel : Nat) (k : Kn (Ex × T)) (t : T) (h : Heap) : Res (Ex × T) :=
lt (sqK (J_tree_Right_3 P call fuel k) k) fun k24 =>
lt (blkK 1 k24) fun k25 =>
arb (.val (t 7) h) call fun v_26 h27 =>
arb (.of (ixsR 1 (t 5) (t 7)) h27) call fun v_28 h29 =>
arb (.of (ld1 h29 v_28) h29) call fun v_30 h31 =>
arb (.val v_26 h31) call fun i_32 h33 =>
arb (.val v_30 h33) call fun x_34 h35 =>
arb (.val x_34 h35) call fun v_36 h37 =>
arb (.of (aBin P .lss 3 (.tmp 12) (.const (.int .i64 0)) v_36 (.int .i64 0)) h37) call fun v_38 h39 =>
arb (.val v_38 h39) call fun v_40 h41 =>
gd (wantB v_40 false) (fun c => arb (.val x_34 h41) call c) h41 fun v_42 h43 =>
gd (wantB v_40 false) (fun c => arb (.val i_32 h43) call c) h43 fun v_44 h45 =>
gd (wantB v_40 false) (fun c => arb (.of (aBin P .gtr 3 (.tmp 15) (.tmp 16) v_42 v_44) h45) call c) h45 fun v_46 h47 =>
arb (pkR v_40 (.bool true) v_46 h47) call fun v_48 h49 =>
cb v_48 (
arb (.val (.bool false) h49) call fun v_50 h51 =>
k25 .ret (upd (upd (upd (upd (upd (upd (upd (upd (upd (upd (upd (upd (upd t 9 v_26) 10 v_28) 11 v_30) 3 i_32) 4 x_34) 12 v_36) 13 v_38) 14 v_40) 15 v_42) 16 v_44) 17 v_46) 18 v_48) 2 v_50) h51) (
k25 .normal (upd (upd (upd (upd (upd (upd (upd (upd (upd (upd (upd (upd t 9 v_26) 10 v_28) 11 v_30) 3 i_32) 4 x_34) 12 v_36) 13 v_38) 14 v_40) 15 v_42) 16 v_44) 17 v_46) 18 v_48) h49)

def L_tree_Right_1 (P : Program) (call : FuncId → List AVal → Heap → Res AVal) (fuel : Nat) (t : T) (h : Heap) : Res (Ex × T) :=
lt okK fun k =>
arb (.of (aBin P .lss 3 (.tmp 7) (.tmp 6) (t 7) (t 6)) h) call fun v_18 h19 =>
lt (sqK (J_tree_Right_2 P call fuel k) k) fun k52 =>
cb v_18 (
k52 .normal (upd t 8 v_18) h19) (
k52 (.exit 0) (upd t 8 v_18) h19)

def S_tree_Right (P : Program) (call : FuncId → List AVal → Heap → Res AVal) (fuel : Nat) (p_a0 : AVal) (h : Heap) : Res AVal :=
lt (retK P [.tmp 2]) fun k =>
arb (.val (.bool false) h) call fun v_0 h1 =>
lt (sqK (J_tree_Right_0 P call fuel k) k) fun k10 =>
arb (.val p_a0 h1) call fun v_11 h12 =>
arb (.of (lenL v_11) h12) call fun v_13 h14 =>
arb (.val (.int .i64 0) h14) call fun v_15 h16 =>
lt (blkK 0 k10) fun k17 =>
(loopN (L_tree_Right_1 P call fuel) fuel (upd (upd (upd (upd (enterT [p_a0]) 2 v_0) 5 v_11) 6 v_13) 7 v_15) h16).bind (lpK k17)
theorem E_tree_Right (call : FuncId → List AVal → Heap → Res AVal) (fuel : Nat) (p_a0 : AVal) (h : Heap) : bodyR Try.prog call fuel Try.f15 [p_a0] h = S_tree_Right Try.prog call fuel p_a0 h := by kernel_rfl
theorem R_tree_Right {X : XTab} (p_a0 : AVal) {h : Heap} {Q : AVal → Heap → Prop} (hx : X F_tree_Right [p_a0] = none) (q : Tells (fun m => S_tree_Right Try.prog (acallX Try.prog X m) m p_a0 h) Q) :
    Tells (fun m => acallX Try.prog X m F_tree_Right [p_a0] h) Q :=
  Tells.later (q.le fun m => (E_tree_Right (acallX Try.prog X m) m p_a0 h) ▸ acallX_le Try.func15 hx m h)


end Go.Proofs.Ytagfibiakjiooaa
