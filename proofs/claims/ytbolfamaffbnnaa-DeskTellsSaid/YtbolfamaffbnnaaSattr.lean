/-
  Functions of attr in the form of YtbolfamaffbnnaaABS (printed by a program of ours, gen.lean).
-/
import Derived.Test.YtbolfamaffbnnaaSIds
set_option linter.unusedVariables false
namespace Go.Proofs.Ytbolfamaffbnnaa
open Go.Ab
/-! ### precentor/attr.Copy -/

def S_attr_Copy (P : Program) (call : FuncId → List AVal → Heap → Res AVal) (fuel : Nat) (l_a0 : AVal) (h : Heap) : Res AVal :=
lt (retK P [.tmp 2]) fun k =>
arb (.val .nils h) call fun v_0 h1 =>
arb (.val l_a0 h1) call fun v_2 h3 =>
arb (appR 6 64 h3 .nils v_2) call fun v_4 h5 =>
arb (.val v_4 h5) call fun v_6 h7 =>
k .ret (upd (upd (upd (upd (enterT [l_a0]) 2 v_0) 3 v_2) 4 v_4) 2 v_6) h7
theorem E_attr_Copy (call : FuncId → List AVal → Heap → Res AVal) (fuel : Nat) (l_a0 : AVal) (h : Heap) : bodyR Try.prog call fuel Try.f49 [l_a0] h = S_attr_Copy Try.prog call fuel l_a0 h := by kernel_rfl
theorem R_attr_Copy {X : XTab} (l_a0 : AVal) {h : Heap} {Q : AVal → Heap → Prop} (hx : X F_attr_Copy [l_a0] = none) (q : Tells (fun m => S_attr_Copy Try.prog (acallX Try.prog X m) m l_a0 h) Q) :
    Tells (fun m => acallX Try.prog X m F_attr_Copy [l_a0] h) Q :=
  Tells.later (q.le fun m => (E_attr_Copy (acallX Try.prog X m) m l_a0 h) ▸ acallX_le Try.func49 hx m h)

/-! ### precentor/attr.Word -/
def J_attr_Word_0 (P : Program) (call : FuncId → List AVal → Heap → Res AVal) (fuel : Nat) (k : Kn (AVal)) (t : T) (h : Heap) : Res (AVal) :=
arb (.val (t 0) h) call fun v_2 h3 =>
arb (.of (lenS v_2) h3) call fun v_4 h5 =>
arb (.of (aBin P .geq 3 (.tmp 21) (.const (.int .i64 1)) v_4 (.int .i64 1)) h5) call fun v_6 h7 =>
arb (.val v_6 h7) call fun v_8 h9 =>
gd (wantB v_8 true) (fun c => arb (.val (t 0) h9) call c) h9 fun v_10 h11 =>
gd (wantB v_8 true) (fun c => arb (.of (lenS v_10) h11) call c) h11 fun v_12 h13 =>
gd (wantB v_8 true) (fun c => arb (.of (aBin P .leq 3 (.tmp 25) (.const (.int .i64 6)) v_12 (.int .i64 6)) h13) call c) h13 fun v_14 h15 =>
arb (pkR v_8 v_14 (.bool false) h15) call fun v_16 h17 =>
arb (.val v_16 h17) call fun v_18 h19 =>
k .ret (upd (upd (upd (upd (upd (upd (upd (upd (upd t 20 v_2) 21 v_4) 22 v_6) 23 v_8) 24 v_10) 25 v_12) 26 v_14) 27 v_16) 2 v_18) h19

def J_attr_Word_3 (P : Program) (call : FuncId → List AVal → Heap → Res AVal) (fuel : Nat) (k : Kn (Ex × T)) (t : T) (h : Heap) : Res (Ex × T) :=
arb (.val (t 3) h) call fun v_24 h25 =>
arb (.of (aBin P .add 3 (.tmp 8) (.const (.int .i64 1)) v_24 (.int .i64 1)) h25) call fun v_26 h27 =>
arb (.val v_26 h27) call fun i_28 h29 =>
k .normal (upd (upd (upd t 8 v_24) 9 v_26) 3 i_28) h29

def J_attr_Word_2 (P : Program) (call : FuncId → List AVal → Heap → Res AVal) (fuel : Nat) (k : Kn (Ex × T)) (t : T) (h : Heap) : Res (Ex × T) :=
lt (sqK (J_attr_Word_3 P call fuel k) k) fun k30 =>
lt (blkK 1 k30) fun k31 =>
arb (.val (t 0) h) call fun v_32 h33 =>
arb (.val (t 3) h33) call fun v_34 h35 =>
arb (.of (ixtR v_32 v_34) h35) call fun v_36 h37 =>
arb (.of (aBin P .lss 5 (.tmp 12) (.const (.int .u8 97)) v_36 (.int .u8 97)) h37) call fun v_38 h39 =>
arb (.val v_38 h39) call fun v_40 h41 =>
gd (wantB v_40 false) (fun c => arb (.val (t 0) h41) call c) h41 fun v_42 h43 =>
gd (wantB v_40 false) (fun c => arb (.val (t 3) h43) call c) h43 fun v_44 h45 =>
gd (wantB v_40 false) (fun c => arb (.of (ixtR v_42 v_44) h45) call c) h45 fun v_46 h47 =>
gd (wantB v_40 false) (fun c => arb (.of (aBin P .gtr 5 (.tmp 17) (.const (.int .u8 122)) v_46 (.int .u8 122)) h47) call c) h47 fun v_48 h49 =>
arb (pkR v_40 (.bool true) v_48 h49) call fun v_50 h51 =>
cb v_50 (
arb (.val (.bool false) h51) call fun v_52 h53 =>
k31 .ret (upd (upd (upd (upd (upd (upd (upd (upd (upd (upd (upd t 10 v_32) 11 v_34) 12 v_36) 13 v_38) 14 v_40) 15 v_42) 16 v_44) 17 v_46) 18 v_48) 19 v_50) 2 v_52) h53) (
k31 .normal (upd (upd (upd (upd (upd (upd (upd (upd (upd (upd t 10 v_32) 11 v_34) 12 v_36) 13 v_38) 14 v_40) 15 v_42) 16 v_44) 17 v_46) 18 v_48) 19 v_50) h51)

def L_attr_Word_1 (P : Program) (call : FuncId → List AVal → Heap → Res AVal) (fuel : Nat) (t : T) (h : Heap) : Res (Ex × T) :=
lt okK fun k =>
lt (sqK (J_attr_Word_2 P call fuel k) k) fun k54 =>
arb (.val (t 3) h) call fun v_55 h56 =>
arb (.val (t 0) h56) call fun v_57 h58 =>
arb (.of (lenS v_57) h58) call fun v_59 h60 =>
arb (.of (aBin P .lss 3 (.tmp 4) (.tmp 6) v_55 v_59) h60) call fun v_61 h62 =>
cb v_61 (
k54 .normal (upd (upd (upd (upd t 4 v_55) 5 v_57) 6 v_59) 7 v_61) h62) (
k54 (.exit 0) (upd (upd (upd (upd t 4 v_55) 5 v_57) 6 v_59) 7 v_61) h62)

def S_attr_Word (P : Program) (call : FuncId → List AVal → Heap → Res AVal) (fuel : Nat) (s_a0 : AVal) (h : Heap) : Res AVal :=
lt (retK P [.tmp 2]) fun k =>
arb (.val (.bool false) h) call fun v_0 h1 =>
lt (sqK (J_attr_Word_0 P call fuel k) k) fun k20 =>
arb (.val (.int .i64 0) h1) call fun i_21 h22 =>
lt (blkK 0 k20) fun k23 =>
(loopN (L_attr_Word_1 P call fuel) fuel (upd (upd (enterT [s_a0]) 2 v_0) 3 i_21) h22).bind (lpK k23)
theorem E_attr_Word (call : FuncId → List AVal → Heap → Res AVal) (fuel : Nat) (s_a0 : AVal) (h : Heap) : bodyR Try.prog call fuel Try.f54 [s_a0] h = S_attr_Word Try.prog call fuel s_a0 h := by kernel_rfl
theorem R_attr_Word {X : XTab} (s_a0 : AVal) {h : Heap} {Q : AVal → Heap → Prop} (hx : X F_attr_Word [s_a0] = none) (q : Tells (fun m => S_attr_Word Try.prog (acallX Try.prog X m) m s_a0 h) Q) :
    Tells (fun m => acallX Try.prog X m F_attr_Word [s_a0] h) Q :=
  Tells.later (q.le fun m => (E_attr_Word (acallX Try.prog X m) m s_a0 h) ▸ acallX_le Try.func54 hx m h)


end Go.Proofs.Ytbolfamaffbnnaa
