/-
  Functions of trap in the form of YtepdlgcoehpnbaaABS (printed by a program of ours, gen.lean).
-/
import Derived.Test.YtepdlgcoehpnbaaSIds
set_option linter.unusedVariables false
namespace Go.Proofs.Ytepdlgcoehpnbaa
open Go.Ab
/-! ### precentor/trap.Stop -/

def S_trap_Stop (P : Program) (call : FuncId → List AVal → Heap → Res AVal) (fuel : Nat) (e_a0 : AVal) (h : Heap) : Res AVal :=
lt (retK P []) fun k =>
arb (.val e_a0 h) call fun v_0 h1 =>
arb (.of (aBin P .neq 22 (.tmp 2) (.const (.int .i64 0)) v_0 (.int .i64 0)) h1) call fun v_2 h3 =>
cb v_2 (
arb (.val e_a0 h3) call fun v_4 h5 =>
arb (.val (.iface 22 v_4) h5) call fun v_6 h7 =>
arb (pncR v_6 h7) call fun v_8 h9 =>
k .normal (upd (upd (upd (upd (enterT [e_a0]) 2 v_0) 3 v_2) 4 v_4) 5 v_6) h9) (
k .normal (upd (upd (enterT [e_a0]) 2 v_0) 3 v_2) h3)
theorem E_trap_Stop (call : FuncId → List AVal → Heap → Res AVal) (fuel : Nat) (e_a0 : AVal) (h : Heap) : bodyR Try.prog call fuel Try.f9 [e_a0] h = S_trap_Stop Try.prog call fuel e_a0 h := by kernel_rfl
theorem R_trap_Stop {X : XTab} (e_a0 : AVal) {h : Heap} {Q : AVal → Heap → Prop} (hx : X F_trap_Stop [e_a0] = none) (q : Tells (fun m => S_trap_Stop Try.prog (acallX Try.prog X m) m e_a0 h) Q) :
    Tells (fun m => acallX Try.prog X m F_trap_Stop [e_a0] h) Q :=
  Tells.later (q.le fun m => (E_trap_Stop (acallX Try.prog X m) m e_a0 h) ▸ acallX_le Try.func9 hx m h)
theorem RV_trap_Stop {X : XTab} {V : AVal → Heap → Prop} (e_a0 : AVal) {h : Heap} {Q : AVal → Heap → Prop} (hx : X F_trap_Stop [e_a0] = none) (q : TellsV V (fun m => S_trap_Stop Try.prog (acallX Try.prog X m) m e_a0 h) Q) :
    TellsV V (fun m => acallX Try.prog X m F_trap_Stop [e_a0] h) Q :=
  TV.later (TV.le q fun m => (E_trap_Stop (acallX Try.prog X m) m e_a0 h) ▸ acallX_le Try.func9 hx m h)

/-! ### precentor/trap.Each -/
def J_trap_Each_0 (P : Program) (call : FuncId → List AVal → Heap → Res AVal) (fuel : Nat) (k : Kn (AVal)) (t : T) (h : Heap) : Res (AVal) :=
arb (.val (t 0) h) call fun v_4 h5 =>
arb (.of (lenL v_4) h5) call fun v_6 h7 =>
arb (.val v_6 h7) call fun v_8 h9 =>
arb (.val (.int .i64 0) h9) call fun v_10 h11 =>
k .ret (upd (upd (upd (upd t 21 v_4) 22 v_6) 2 v_8) 3 v_10) h11

def J_trap_Each_3 (P : Program) (call : FuncId → List AVal → Heap → Res AVal) (fuel : Nat) (k : Kn (Ex × T)) (t : T) (h : Heap) : Res (Ex × T) :=
arb (.of (aBin P .add 3 (.tmp 9) (.const (.int .i64 1)) (t 9) (.int .i64 1)) h) call fun v_22 h23 =>
arb (.val v_22 h23) call fun v_24 h25 =>
k .normal (upd (upd t 20 v_22) 9 v_24) h25

def J_trap_Each_2 (P : Program) (call : FuncId → List AVal → Heap → Res AVal) (fuel : Nat) (k : Kn (Ex × T)) (t : T) (h : Heap) : Res (Ex × T) :=
lt (sqK (J_trap_Each_3 P call fuel k) k) fun k26 =>
lt (blkK 1 k26) fun k27 =>
arb (.val (t 9) h) call fun v_28 h29 =>
arb (.of (ixsR 1 (t 7) (t 9)) h29) call fun v_30 h31 =>
arb (.of (ld1 h31 v_30) h31) call fun v_32 h33 =>
arb (.val v_28 h33) call fun i_34 h35 =>
arb (.val v_32 h35) call fun f_36 h37 =>
arb (.val f_36 h37) call fun v_38 h39 =>
arb (.call F_trap_Run [v_38] h39) call fun v_40 h41 =>
arb (.val v_40 h41) call fun e_42 h43 =>
arb (.val e_42 h43) call fun v_44 h45 =>
arb (.of (aBin P .neq 22 (.tmp 16) (.const (.int .i64 0)) v_44 (.int .i64 0)) h45) call fun v_46 h47 =>
cb v_46 (
arb (.val i_34 h47) call fun v_48 h49 =>
arb (.val e_42 h49) call fun v_50 h51 =>
arb (.val v_48 h51) call fun v_52 h53 =>
arb (.val v_50 h53) call fun v_54 h55 =>
k27 .ret (upd (upd (upd (upd (upd (upd (upd (upd (upd (upd (upd (upd (upd (upd t 11 v_28) 12 v_30) 13 v_32) 4 i_34) 5 f_36) 14 v_38) 15 v_40) 6 e_42) 16 v_44) 17 v_46) 18 v_48) 19 v_50) 2 v_52) 3 v_54) h55) (
k27 .normal (upd (upd (upd (upd (upd (upd (upd (upd (upd (upd t 11 v_28) 12 v_30) 13 v_32) 4 i_34) 5 f_36) 14 v_38) 15 v_40) 6 e_42) 16 v_44) 17 v_46) h47)

def L_trap_Each_1 (P : Program) (call : FuncId → List AVal → Heap → Res AVal) (fuel : Nat) (t : T) (h : Heap) : Res (Ex × T) :=
lt okK fun k =>
arb (.of (aBin P .lss 3 (.tmp 9) (.tmp 8) (t 9) (t 8)) h) call fun v_20 h21 =>
lt (sqK (J_trap_Each_2 P call fuel k) k) fun k56 =>
cb v_20 (
k56 .normal (upd t 10 v_20) h21) (
k56 (.exit 0) (upd t 10 v_20) h21)

def S_trap_Each (P : Program) (call : FuncId → List AVal → Heap → Res AVal) (fuel : Nat) (fs_a0 : AVal) (h : Heap) : Res AVal :=
lt (retK P [.tmp 2, .tmp 3]) fun k =>
arb (.val (.int .i64 0) h) call fun v_0 h1 =>
arb (.val (.int .i64 0) h1) call fun v_2 h3 =>
lt (sqK (J_trap_Each_0 P call fuel k) k) fun k12 =>
arb (.val fs_a0 h3) call fun v_13 h14 =>
arb (.of (lenL v_13) h14) call fun v_15 h16 =>
arb (.val (.int .i64 0) h16) call fun v_17 h18 =>
lt (blkK 0 k12) fun k19 =>
(loopN (L_trap_Each_1 P call fuel) fuel (upd (upd (upd (upd (upd (enterT [fs_a0]) 2 v_0) 3 v_2) 7 v_13) 8 v_15) 9 v_17) h18).bind (lpK k19)
theorem E_trap_Each (call : FuncId → List AVal → Heap → Res AVal) (fuel : Nat) (fs_a0 : AVal) (h : Heap) : bodyR Try.prog call fuel Try.f10 [fs_a0] h = S_trap_Each Try.prog call fuel fs_a0 h := by kernel_rfl
theorem R_trap_Each {X : XTab} (fs_a0 : AVal) {h : Heap} {Q : AVal → Heap → Prop} (hx : X F_trap_Each [fs_a0] = none) (q : Tells (fun m => S_trap_Each Try.prog (acallX Try.prog X m) m fs_a0 h) Q) :
    Tells (fun m => acallX Try.prog X m F_trap_Each [fs_a0] h) Q :=
  Tells.later (q.le fun m => (E_trap_Each (acallX Try.prog X m) m fs_a0 h) ▸ acallX_le Try.func10 hx m h)
theorem RV_trap_Each {X : XTab} {V : AVal → Heap → Prop} (fs_a0 : AVal) {h : Heap} {Q : AVal → Heap → Prop} (hx : X F_trap_Each [fs_a0] = none) (q : TellsV V (fun m => S_trap_Each Try.prog (acallX Try.prog X m) m fs_a0 h) Q) :
    TellsV V (fun m => acallX Try.prog X m F_trap_Each [fs_a0] h) Q :=
  TV.later (TV.le q fun m => (E_trap_Each (acallX Try.prog X m) m fs_a0 h) ▸ acallX_le Try.func10 hx m h)

/-! ### precentor/trap.Need -/

def S_trap_Need (P : Program) (call : FuncId → List AVal → Heap → Res AVal) (fuel : Nat) (ok_a0 e_a1 : AVal) (h : Heap) : Res AVal :=
lt (retK P []) fun k =>
arb (.val ok_a0 h) call fun v_0 h1 =>
arb (.of (aUn P .not v_0) h1) call fun v_2 h3 =>
cb v_2 (
arb (.val e_a1 h3) call fun v_4 h5 =>
arb (.call F_trap_Stop [v_4] h5) call fun v_6 h7 =>
k .normal (upd (upd (upd (upd (enterT [ok_a0, e_a1]) 4 v_0) 5 v_2) 6 v_4) 7 v_6) h7) (
k .normal (upd (upd (enterT [ok_a0, e_a1]) 4 v_0) 5 v_2) h3)
theorem E_trap_Need (call : FuncId → List AVal → Heap → Res AVal) (fuel : Nat) (ok_a0 e_a1 : AVal) (h : Heap) : bodyR Try.prog call fuel Try.f15 [ok_a0, e_a1] h = S_trap_Need Try.prog call fuel ok_a0 e_a1 h := by kernel_rfl
theorem R_trap_Need {X : XTab} (ok_a0 e_a1 : AVal) {h : Heap} {Q : AVal → Heap → Prop} (hx : X F_trap_Need [ok_a0, e_a1] = none) (q : Tells (fun m => S_trap_Need Try.prog (acallX Try.prog X m) m ok_a0 e_a1 h) Q) :
    Tells (fun m => acallX Try.prog X m F_trap_Need [ok_a0, e_a1] h) Q :=
  Tells.later (q.le fun m => (E_trap_Need (acallX Try.prog X m) m ok_a0 e_a1 h) ▸ acallX_le Try.func15 hx m h)
theorem RV_trap_Need {X : XTab} {V : AVal → Heap → Prop} (ok_a0 e_a1 : AVal) {h : Heap} {Q : AVal → Heap → Prop} (hx : X F_trap_Need [ok_a0, e_a1] = none) (q : TellsV V (fun m => S_trap_Need Try.prog (acallX Try.prog X m) m ok_a0 e_a1 h) Q) :
    TellsV V (fun m => acallX Try.prog X m F_trap_Need [ok_a0, e_a1] h) Q :=
  TV.later (TV.le q fun m => (E_trap_Need (acallX Try.prog X m) m ok_a0 e_a1 h) ▸ acallX_le Try.func15 hx m h)


end Go.Proofs.Ytepdlgcoehpnbaa
