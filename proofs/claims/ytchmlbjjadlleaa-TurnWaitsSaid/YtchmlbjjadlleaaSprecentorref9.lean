/-
  Functions of precentorref9 in the form of YtchmlbjjadlleaaABS (printed by a program of ours, gen.lean).
-/
import Derived.Test.YtchmlbjjadlleaaSIds
set_option linter.unusedVariables false
namespace Go.Proofs.Ytchmlbjjadlleaa
open Go.Ab
/-! ### precentor/precentorref9.RightTree -/
def J_precentorref9_RightTree_0 (P : Program) (call : FuncId → List AVal → Heap → Res AVal) (fuel : Nat) (k : Kn (AVal)) (t : T) (h : Heap) : Res (AVal) :=
arb (.val (t 0) h) call fun v_2 h3 =>
arb (.of (lenL v_2) h3) call fun v_4 h5 =>
arb (.of (aBin P .leq 3 (.tmp 24) (.const (.int .i64 7)) v_4 (.int .i64 7)) h5) call fun v_6 h7 =>
arb (.val v_6 h7) call fun v_8 h9 =>
k .ret (upd (upd (upd (upd t 23 v_2) 24 v_4) 25 v_6) 2 v_8) h9

def J_precentorref9_RightTree_3 (P : Program) (call : FuncId → List AVal → Heap → Res AVal) (fuel : Nat) (k : Kn (Ex × T)) (t : T) (h : Heap) : Res (Ex × T) :=
arb (.val (t 3) h) call fun v_14 h15 =>
arb (.of (aBin P .add 3 (.tmp 8) (.const (.int .i64 1)) v_14 (.int .i64 1)) h15) call fun v_16 h17 =>
arb (.val v_16 h17) call fun i_18 h19 =>
k .normal (upd (upd (upd t 8 v_14) 9 v_16) 3 i_18) h19

def J_precentorref9_RightTree_2 (P : Program) (call : FuncId → List AVal → Heap → Res AVal) (fuel : Nat) (k : Kn (Ex × T)) (t : T) (h : Heap) : Res (Ex × T) :=
lt (sqK (J_precentorref9_RightTree_3 P call fuel k) k) fun k20 =>
lt (blkK 1 k20) fun k21 =>
arb (.val (t 0) h) call fun v_22 h23 =>
arb (.val (t 3) h23) call fun v_24 h25 =>
arb (.of (ixsR 1 v_22 v_24) h25) call fun v_26 h27 =>
arb (.of (ld1 h27 v_26) h27) call fun v_28 h29 =>
arb (.of (aBin P .lss 3 (.tmp 13) (.const (.int .i64 0)) v_28 (.int .i64 0)) h29) call fun v_30 h31 =>
arb (.val v_30 h31) call fun v_32 h33 =>
gd (wantB v_32 false) (fun c => arb (.val (t 0) h33) call c) h33 fun v_34 h35 =>
gd (wantB v_32 false) (fun c => arb (.val (t 3) h35) call c) h35 fun v_36 h37 =>
gd (wantB v_32 false) (fun c => arb (.of (ixsR 1 v_34 v_36) h37) call c) h37 fun v_38 h39 =>
gd (wantB v_32 false) (fun c => arb (.of (ld1 h39 v_38) h39) call c) h39 fun v_40 h41 =>
gd (wantB v_32 false) (fun c => arb (.val (t 3) h41) call c) h41 fun v_42 h43 =>
gd (wantB v_32 false) (fun c => arb (.of (aBin P .gtr 3 (.tmp 19) (.tmp 20) v_40 v_42) h43) call c) h43 fun v_44 h45 =>
arb (pkR v_32 (.bool true) v_44 h45) call fun v_46 h47 =>
cb v_46 (
arb (.val (.bool false) h47) call fun v_48 h49 =>
k21 .ret (upd (upd (upd (upd (upd (upd (upd (upd (upd (upd (upd (upd (upd (upd t 10 v_22) 11 v_24) 12 v_26) 13 v_28) 14 v_30) 15 v_32) 16 v_34) 17 v_36) 18 v_38) 19 v_40) 20 v_42) 21 v_44) 22 v_46) 2 v_48) h49) (
k21 .normal (upd (upd (upd (upd (upd (upd (upd (upd (upd (upd (upd (upd (upd t 10 v_22) 11 v_24) 12 v_26) 13 v_28) 14 v_30) 15 v_32) 16 v_34) 17 v_36) 18 v_38) 19 v_40) 20 v_42) 21 v_44) 22 v_46) h47)

def L_precentorref9_RightTree_1 (P : Program) (call : FuncId → List AVal → Heap → Res AVal) (fuel : Nat) (t : T) (h : Heap) : Res (Ex × T) :=
lt okK fun k =>
lt (sqK (J_precentorref9_RightTree_2 P call fuel k) k) fun k50 =>
arb (.val (t 3) h) call fun v_51 h52 =>
arb (.val (t 0) h52) call fun v_53 h54 =>
arb (.of (lenL v_53) h54) call fun v_55 h56 =>
arb (.of (aBin P .lss 3 (.tmp 4) (.tmp 6) v_51 v_55) h56) call fun v_57 h58 =>
cb v_57 (
k50 .normal (upd (upd (upd (upd t 4 v_51) 5 v_53) 6 v_55) 7 v_57) h58) (
k50 (.exit 0) (upd (upd (upd (upd t 4 v_51) 5 v_53) 6 v_55) 7 v_57) h58)

def S_precentorref9_RightTree (P : Program) (call : FuncId → List AVal → Heap → Res AVal) (fuel : Nat) (p_a0 : AVal) (h : Heap) : Res AVal :=
lt (retK P [.tmp 2]) fun k =>
arb (.val (.bool false) h) call fun v_0 h1 =>
lt (sqK (J_precentorref9_RightTree_0 P call fuel k) k) fun k10 =>
arb (.val (.int .i64 0) h1) call fun i_11 h12 =>
lt (blkK 0 k10) fun k13 =>
(loopN (L_precentorref9_RightTree_1 P call fuel) fuel (upd (upd (enterT [p_a0]) 2 v_0) 3 i_11) h12).bind (lpK k13)
theorem E_precentorref9_RightTree (call : FuncId → List AVal → Heap → Res AVal) (fuel : Nat) (p_a0 : AVal) (h : Heap) : bodyR Try.prog call fuel Try.f34 [p_a0] h = S_precentorref9_RightTree Try.prog call fuel p_a0 h := by kernel_rfl
theorem R_precentorref9_RightTree {X : XTab} (p_a0 : AVal) {h : Heap} {Q : AVal → Heap → Prop} (hx : X F_precentorref9_RightTree [p_a0] = none) (q : Tells (fun m => S_precentorref9_RightTree Try.prog (acallX Try.prog X m) m p_a0 h) Q) :
    Tells (fun m => acallX Try.prog X m F_precentorref9_RightTree [p_a0] h) Q :=
  Tells.later (q.le fun m => (E_precentorref9_RightTree (acallX Try.prog X m) m p_a0 h) ▸ acallX_le Try.func34 hx m h)

/-! ### precentor/precentorref9.In -/
def J_precentorref9_In_0 (P : Program) (call : FuncId → List AVal → Heap → Res AVal) (fuel : Nat) (k : Kn (AVal)) (t : T) (h : Heap) : Res (AVal) :=
arb (.val (.bool false) h) call fun v_2 h3 =>
k .ret (upd t 4 v_2) h3

def J_precentorref9_In_3 (P : Program) (call : FuncId → List AVal → Heap → Res AVal) (fuel : Nat) (k : Kn (Ex × T)) (t : T) (h : Heap) : Res (Ex × T) :=
arb (.val (t 5) h) call fun v_8 h9 =>
arb (.of (aBin P .add 3 (.tmp 10) (.const (.int .i64 1)) v_8 (.int .i64 1)) h9) call fun v_10 h11 =>
arb (.val v_10 h11) call fun i_12 h13 =>
k .normal (upd (upd (upd t 10 v_8) 11 v_10) 5 i_12) h13

def J_precentorref9_In_2 (P : Program) (call : FuncId → List AVal → Heap → Res AVal) (fuel : Nat) (k : Kn (Ex × T)) (t : T) (h : Heap) : Res (Ex × T) :=
lt (sqK (J_precentorref9_In_3 P call fuel k) k) fun k14 =>
lt (blkK 1 k14) fun k15 =>
arb (.val (t 0) h) call fun v_16 h17 =>
arb (.val (t 5) h17) call fun v_18 h19 =>
arb (.of (ixsR 1 v_16 v_18) h19) call fun v_20 h21 =>
arb (.of (ld1 h21 v_20) h21) call fun v_22 h23 =>
arb (.val (t 1) h23) call fun v_24 h25 =>
arb (.of (aBin P .eql 3 (.tmp 15) (.tmp 16) v_22 v_24) h25) call fun v_26 h27 =>
cb v_26 (
arb (.val (.bool true) h27) call fun v_28 h29 =>
k15 .ret (upd (upd (upd (upd (upd (upd (upd t 12 v_16) 13 v_18) 14 v_20) 15 v_22) 16 v_24) 17 v_26) 4 v_28) h29) (
k15 .normal (upd (upd (upd (upd (upd (upd t 12 v_16) 13 v_18) 14 v_20) 15 v_22) 16 v_24) 17 v_26) h27)

def L_precentorref9_In_1 (P : Program) (call : FuncId → List AVal → Heap → Res AVal) (fuel : Nat) (t : T) (h : Heap) : Res (Ex × T) :=
lt okK fun k =>
lt (sqK (J_precentorref9_In_2 P call fuel k) k) fun k30 =>
arb (.val (t 5) h) call fun v_31 h32 =>
arb (.val (t 0) h32) call fun v_33 h34 =>
arb (.of (lenL v_33) h34) call fun v_35 h36 =>
arb (.of (aBin P .lss 3 (.tmp 6) (.tmp 8) v_31 v_35) h36) call fun v_37 h38 =>
cb v_37 (
k30 .normal (upd (upd (upd (upd t 6 v_31) 7 v_33) 8 v_35) 9 v_37) h38) (
k30 (.exit 0) (upd (upd (upd (upd t 6 v_31) 7 v_33) 8 v_35) 9 v_37) h38)

def S_precentorref9_In (P : Program) (call : FuncId → List AVal → Heap → Res AVal) (fuel : Nat) (l_a0 n_a1 : AVal) (h : Heap) : Res AVal :=
lt (retK P [.tmp 4]) fun k =>
arb (.val (.bool false) h) call fun v_0 h1 =>
lt (sqK (J_precentorref9_In_0 P call fuel k) k) fun k4 =>
arb (.val (.int .i64 0) h1) call fun i_5 h6 =>
lt (blkK 0 k4) fun k7 =>
(loopN (L_precentorref9_In_1 P call fuel) fuel (upd (upd (enterT [l_a0, n_a1]) 4 v_0) 5 i_5) h6).bind (lpK k7)
theorem E_precentorref9_In (call : FuncId → List AVal → Heap → Res AVal) (fuel : Nat) (l_a0 n_a1 : AVal) (h : Heap) : bodyR Try.prog call fuel Try.f35 [l_a0, n_a1] h = S_precentorref9_In Try.prog call fuel l_a0 n_a1 h := by kernel_rfl
theorem R_precentorref9_In {X : XTab} (l_a0 n_a1 : AVal) {h : Heap} {Q : AVal → Heap → Prop} (hx : X F_precentorref9_In [l_a0, n_a1] = none) (q : Tells (fun m => S_precentorref9_In Try.prog (acallX Try.prog X m) m l_a0 n_a1 h) Q) :
    Tells (fun m => acallX Try.prog X m F_precentorref9_In [l_a0, n_a1] h) Q :=
  Tells.later (q.le fun m => (E_precentorref9_In (acallX Try.prog X m) m l_a0 n_a1 h) ▸ acallX_le Try.func35 hx m h)

/-! ### precentor/precentorref9.Kids -/
def J_precentorref9_Kids_1 (P : Program) (call : FuncId → List AVal → Heap → Res AVal) (fuel : Nat) (k : Kn (AVal)) (t : T) (h : Heap) : Res (AVal) :=
arb (.val (t 5) h) call fun v_4 h5 =>
arb (.val v_4 h5) call fun v_6 h7 =>
k .ret (upd (upd t 29 v_4) 4 v_6) h7

def J_precentorref9_Kids_4 (P : Program) (call : FuncId → List AVal → Heap → Res AVal) (fuel : Nat) (k : Kn (Ex × T)) (t : T) (h : Heap) : Res (Ex × T) :=
arb (.val (t 6) h) call fun v_12 h13 =>
arb (.of (aBin P .add 3 (.tmp 16) (.const (.int .i64 1)) v_12 (.int .i64 1)) h13) call fun v_14 h15 =>
arb (.val v_14 h15) call fun i_16 h17 =>
k .normal (upd (upd (upd t 16 v_12) 17 v_14) 6 i_16) h17

def J_precentorref9_Kids_3 (P : Program) (call : FuncId → List AVal → Heap → Res AVal) (fuel : Nat) (k : Kn (Ex × T)) (t : T) (h : Heap) : Res (Ex × T) :=
lt (sqK (J_precentorref9_Kids_4 P call fuel k) k) fun k18 =>
lt (blkK 1 k18) fun k19 =>
arb (.val (t 0) h) call fun v_20 h21 =>
arb (.val (t 6) h21) call fun v_22 h23 =>
arb (.of (ixsR 1 v_20 v_22) h23) call fun v_24 h25 =>
arb (.of (ld1 h25 v_24) h25) call fun v_26 h27 =>
arb (.val (t 1) h27) call fun v_28 h29 =>
arb (.of (aBin P .eql 3 (.tmp 21) (.tmp 22) v_26 v_28) h29) call fun v_30 h31 =>
cb v_30 (
arb (.val (t 5) h31) call fun v_32 h33 =>
arb (.val (t 6) h33) call fun v_34 h35 =>
arb (.of (aBin P .add 3 (.tmp 25) (.const (.int .i64 1)) v_34 (.int .i64 1)) h35) call fun v_36 h37 =>
arb (bslR 1 [(.int .i64 0)] 1 h37 [(0, 1, v_36)]) call fun v_38 h39 =>
arb (appR 1 8 h39 v_32 v_38) call fun v_40 h41 =>
arb (.val v_40 h41) call fun l_42 h43 =>
k19 .normal (upd (upd (upd (upd (upd (upd (upd (upd (upd (upd (upd (upd t 18 v_20) 19 v_22) 20 v_24) 21 v_26) 22 v_28) 23 v_30) 24 v_32) 25 v_34) 26 v_36) 27 v_38) 28 v_40) 5 l_42) h43) (
k19 .normal (upd (upd (upd (upd (upd (upd t 18 v_20) 19 v_22) 20 v_24) 21 v_26) 22 v_28) 23 v_30) h31)

def L_precentorref9_Kids_2 (P : Program) (call : FuncId → List AVal → Heap → Res AVal) (fuel : Nat) (t : T) (h : Heap) : Res (Ex × T) :=
lt okK fun k =>
lt (sqK (J_precentorref9_Kids_3 P call fuel k) k) fun k44 =>
arb (.val (t 6) h) call fun v_45 h46 =>
arb (.val (t 0) h46) call fun v_47 h48 =>
arb (.of (lenL v_47) h48) call fun v_49 h50 =>
arb (.of (aBin P .lss 3 (.tmp 12) (.tmp 14) v_45 v_49) h50) call fun v_51 h52 =>
cb v_51 (
k44 .normal (upd (upd (upd (upd t 12 v_45) 13 v_47) 14 v_49) 15 v_51) h52) (
k44 (.exit 0) (upd (upd (upd (upd t 12 v_45) 13 v_47) 14 v_49) 15 v_51) h52)

def J_precentorref9_Kids_0 (P : Program) (call : FuncId → List AVal → Heap → Res AVal) (fuel : Nat) (k : Kn (AVal)) (t : T) (h : Heap) : Res (AVal) :=
lt (sqK (J_precentorref9_Kids_1 P call fuel k) k) fun k8 =>
arb (.val (.int .i64 0) h) call fun i_9 h10 =>
lt (blkK 0 k8) fun k11 =>
(loopN (L_precentorref9_Kids_2 P call fuel) fuel (upd t 6 i_9) h10).bind (lpK k11)

def S_precentorref9_Kids (P : Program) (call : FuncId → List AVal → Heap → Res AVal) (fuel : Nat) (p_a0 b_a1 : AVal) (h : Heap) : Res AVal :=
lt (retK P [.tmp 4]) fun k =>
arb (.val .nils h) call fun v_0 h1 =>
arb (.val .nils h1) call fun l_2 h3 =>
lt (sqK (J_precentorref9_Kids_0 P call fuel k) k) fun k53 =>
arb (.val p_a0 h3) call fun v_54 h55 =>
arb (.val b_a1 h55) call fun v_56 h57 =>
arb (.call F_precentorref9_has [v_54, v_56] h57) call fun v_58 h59 =>
arb (.of (aUn P .not v_58) h59) call fun v_60 h61 =>
cb v_60 (
arb (.val l_2 h61) call fun v_62 h63 =>
arb (.val v_62 h63) call fun v_64 h65 =>
k53 .ret (upd (upd (upd (upd (upd (upd (upd (upd (enterT [p_a0, b_a1]) 4 v_0) 5 l_2) 7 v_54) 8 v_56) 9 v_58) 10 v_60) 11 v_62) 4 v_64) h65) (
k53 .normal (upd (upd (upd (upd (upd (upd (enterT [p_a0, b_a1]) 4 v_0) 5 l_2) 7 v_54) 8 v_56) 9 v_58) 10 v_60) h61)
theorem E_precentorref9_Kids (call : FuncId → List AVal → Heap → Res AVal) (fuel : Nat) (p_a0 b_a1 : AVal) (h : Heap) : bodyR Try.prog call fuel Try.f36 [p_a0, b_a1] h = S_precentorref9_Kids Try.prog call fuel p_a0 b_a1 h := by kernel_rfl
theorem R_precentorref9_Kids {X : XTab} (p_a0 b_a1 : AVal) {h : Heap} {Q : AVal → Heap → Prop} (hx : X F_precentorref9_Kids [p_a0, b_a1] = none) (q : Tells (fun m => S_precentorref9_Kids Try.prog (acallX Try.prog X m) m p_a0 b_a1 h) Q) :
    Tells (fun m => acallX Try.prog X m F_precentorref9_Kids [p_a0, b_a1] h) Q :=
  Tells.later (q.le fun m => (E_precentorref9_Kids (acallX Try.prog X m) m p_a0 b_a1 h) ▸ acallX_le Try.func36 hx m h)

/-! ### precentor/precentorref9.Put -/
def J_precentorref9_Put_2 (P : Program) (call : FuncId → List AVal → Heap → Res AVal) (fuel : Nat) (k : Kn (AVal)) (t : T) (h : Heap) : Res (AVal) :=
arb (.val (t 5) h) call fun v_14 h15 =>
arb (.val v_14 h15) call fun v_16 h17 =>
k .ret (upd (upd t 56 v_14) 4 v_16) h17

def J_precentorref9_Put_5 (P : Program) (call : FuncId → List AVal → Heap → Res AVal) (fuel : Nat) (k : Kn (Ex × T)) (t : T) (h : Heap) : Res (Ex × T) :=
arb (.val (t 7) h) call fun v_22 h23 =>
arb (.of (aBin P .add 3 (.tmp 41) (.const (.int .i64 1)) v_22 (.int .i64 1)) h23) call fun v_24 h25 =>
arb (.val v_24 h25) call fun i_26 h27 =>
k .normal (upd (upd (upd t 41 v_22) 42 v_24) 7 i_26) h27

def J_precentorref9_Put_4 (P : Program) (call : FuncId → List AVal → Heap → Res AVal) (fuel : Nat) (k : Kn (Ex × T)) (t : T) (h : Heap) : Res (Ex × T) :=
lt (sqK (J_precentorref9_Put_5 P call fuel k) k) fun k28 =>
lt (blkK 3 k28) fun k29 =>
arb (.val (t 0) h) call fun v_30 h31 =>
arb (.val (t 7) h31) call fun v_32 h33 =>
arb (.of (ixsR 1 v_30 v_32) h33) call fun v_34 h35 =>
arb (.of (ld1 h35 v_34) h35) call fun v_36 h37 =>
arb (.val (t 1) h37) call fun v_38 h39 =>
arb (.of (aBin P .gtr 3 (.tmp 46) (.tmp 47) v_36 v_38) h39) call fun v_40 h41 =>
cb v_40 (
arb (.val (t 5) h41) call fun v_42 h43 =>
arb (.val (t 0) h43) call fun v_44 h45 =>
arb (.val (t 7) h45) call fun v_46 h47 =>
arb (.of (ixsR 1 v_44 v_46) h47) call fun v_48 h49 =>
arb (.of (ld1 h49 v_48) h49) call fun v_50 h51 =>
arb (bslR 1 [(.int .i64 0)] 1 h51 [(0, 1, v_50)]) call fun v_52 h53 =>
arb (appR 1 8 h53 v_42 v_52) call fun v_54 h55 =>
arb (.val v_54 h55) call fun out_56 h57 =>
k29 .normal (upd (upd (upd (upd (upd (upd (upd (upd (upd (upd (upd (upd (upd (upd t 43 v_30) 44 v_32) 45 v_34) 46 v_36) 47 v_38) 48 v_40) 49 v_42) 50 v_44) 51 v_46) 52 v_48) 53 v_50) 54 v_52) 55 v_54) 5 out_56) h57) (
k29 .normal (upd (upd (upd (upd (upd (upd t 43 v_30) 44 v_32) 45 v_34) 46 v_36) 47 v_38) 48 v_40) h41)

def L_precentorref9_Put_3 (P : Program) (call : FuncId → List AVal → Heap → Res AVal) (fuel : Nat) (t : T) (h : Heap) : Res (Ex × T) :=
lt okK fun k =>
lt (sqK (J_precentorref9_Put_4 P call fuel k) k) fun k58 =>
arb (.val (t 7) h) call fun v_59 h60 =>
arb (.val (t 0) h60) call fun v_61 h62 =>
arb (.of (lenL v_61) h62) call fun v_63 h64 =>
arb (.of (aBin P .lss 3 (.tmp 37) (.tmp 39) v_59 v_63) h64) call fun v_65 h66 =>
cb v_65 (
k58 .normal (upd (upd (upd (upd t 37 v_59) 38 v_61) 39 v_63) 40 v_65) h66) (
k58 (.exit 2) (upd (upd (upd (upd t 37 v_59) 38 v_61) 39 v_63) 40 v_65) h66)

def J_precentorref9_Put_1 (P : Program) (call : FuncId → List AVal → Heap → Res AVal) (fuel : Nat) (k : Kn (AVal)) (t : T) (h : Heap) : Res (AVal) :=
arb (.val (t 5) h) call fun v_4 h5 =>
arb (.val (t 1) h5) call fun v_6 h7 =>
arb (bslR 1 [(.int .i64 0)] 1 h7 [(0, 1, v_6)]) call fun v_8 h9 =>
arb (appR 1 8 h9 v_4 v_8) call fun v_10 h11 =>
arb (.val v_10 h11) call fun out_12 h13 =>
lt (sqK (J_precentorref9_Put_2 P call fuel k) k) fun k18 =>
arb (.val (.int .i64 0) h13) call fun i_19 h20 =>
lt (blkK 2 k18) fun k21 =>
(loopN (L_precentorref9_Put_3 P call fuel) fuel (upd (upd (upd (upd (upd (upd t 33 v_4) 34 v_6) 35 v_8) 36 v_10) 5 out_12) 7 i_19) h20).bind (lpK k21)

def J_precentorref9_Put_8 (P : Program) (call : FuncId → List AVal → Heap → Res AVal) (fuel : Nat) (k : Kn (Ex × T)) (t : T) (h : Heap) : Res (Ex × T) :=
arb (.val (t 6) h) call fun v_71 h72 =>
arb (.of (aBin P .add 3 (.tmp 24) (.const (.int .i64 1)) v_71 (.int .i64 1)) h72) call fun v_73 h74 =>
arb (.val v_73 h74) call fun i_75 h76 =>
k .normal (upd (upd (upd t 24 v_71) 25 v_73) 6 i_75) h76

def J_precentorref9_Put_7 (P : Program) (call : FuncId → List AVal → Heap → Res AVal) (fuel : Nat) (k : Kn (Ex × T)) (t : T) (h : Heap) : Res (Ex × T) :=
lt (sqK (J_precentorref9_Put_8 P call fuel k) k) fun k77 =>
lt (blkK 1 k77) fun k78 =>
arb (.val (t 5) h) call fun v_79 h80 =>
arb (.val (t 0) h80) call fun v_81 h82 =>
arb (.val (t 6) h82) call fun v_83 h84 =>
arb (.of (ixsR 1 v_81 v_83) h84) call fun v_85 h86 =>
arb (.of (ld1 h86 v_85) h86) call fun v_87 h88 =>
arb (bslR 1 [(.int .i64 0)] 1 h88 [(0, 1, v_87)]) call fun v_89 h90 =>
arb (appR 1 8 h90 v_79 v_89) call fun v_91 h92 =>
arb (.val v_91 h92) call fun out_93 h94 =>
k78 .normal (upd (upd (upd (upd (upd (upd (upd (upd t 26 v_79) 27 v_81) 28 v_83) 29 v_85) 30 v_87) 31 v_89) 32 v_91) 5 out_93) h94

def L_precentorref9_Put_6 (P : Program) (call : FuncId → List AVal → Heap → Res AVal) (fuel : Nat) (t : T) (h : Heap) : Res (Ex × T) :=
lt okK fun k =>
lt (sqK (J_precentorref9_Put_7 P call fuel k) k) fun k95 =>
arb (.val (t 6) h) call fun v_96 h97 =>
arb (.val (t 0) h97) call fun v_98 h99 =>
arb (.of (lenL v_98) h99) call fun v_100 h101 =>
arb (.of (aBin P .lss 3 (.tmp 12) (.tmp 14) v_96 v_100) h101) call fun v_102 h103 =>
arb (.val v_102 h103) call fun v_104 h105 =>
gd (wantB v_104 true) (fun c => arb (.val (t 0) h105) call c) h105 fun v_106 h107 =>
gd (wantB v_104 true) (fun c => arb (.val (t 6) h107) call c) h107 fun v_108 h109 =>
gd (wantB v_104 true) (fun c => arb (.of (ixsR 1 v_106 v_108) h109) call c) h109 fun v_110 h111 =>
gd (wantB v_104 true) (fun c => arb (.of (ld1 h111 v_110) h111) call c) h111 fun v_112 h113 =>
gd (wantB v_104 true) (fun c => arb (.val (t 1) h113) call c) h113 fun v_114 h115 =>
gd (wantB v_104 true) (fun c => arb (.of (aBin P .lss 3 (.tmp 20) (.tmp 21) v_112 v_114) h115) call c) h115 fun v_116 h117 =>
arb (pkR v_104 v_116 (.bool false) h117) call fun v_118 h119 =>
cb v_118 (
k95 .normal (upd (upd (upd (upd (upd (upd (upd (upd (upd (upd (upd (upd t 12 v_96) 13 v_98) 14 v_100) 15 v_102) 16 v_104) 17 v_106) 18 v_108) 19 v_110) 20 v_112) 21 v_114) 22 v_116) 23 v_118) h119) (
k95 (.exit 0) (upd (upd (upd (upd (upd (upd (upd (upd (upd (upd (upd (upd t 12 v_96) 13 v_98) 14 v_100) 15 v_102) 16 v_104) 17 v_106) 18 v_108) 19 v_110) 20 v_112) 21 v_114) 22 v_116) 23 v_118) h119)

def J_precentorref9_Put_0 (P : Program) (call : FuncId → List AVal → Heap → Res AVal) (fuel : Nat) (k : Kn (AVal)) (t : T) (h : Heap) : Res (AVal) :=
arb (.val .nils h) call fun out_2 h3 =>
lt (sqK (J_precentorref9_Put_1 P call fuel k) k) fun k67 =>
arb (.val (.int .i64 0) h3) call fun i_68 h69 =>
lt (blkK 0 k67) fun k70 =>
(loopN (L_precentorref9_Put_6 P call fuel) fuel (upd (upd t 5 out_2) 6 i_68) h69).bind (lpK k70)

def S_precentorref9_Put (P : Program) (call : FuncId → List AVal → Heap → Res AVal) (fuel : Nat) (l_a0 n_a1 : AVal) (h : Heap) : Res AVal :=
lt (retK P [.tmp 4]) fun k =>
arb (.val .nils h) call fun v_0 h1 =>
lt (sqK (J_precentorref9_Put_0 P call fuel k) k) fun k120 =>
arb (.val l_a0 h1) call fun v_121 h122 =>
arb (.val n_a1 h122) call fun v_123 h124 =>
arb (.call F_precentorref9_In [v_121, v_123] h124) call fun v_125 h126 =>
cb v_125 (
arb (.val l_a0 h126) call fun v_127 h128 =>
arb (.val v_127 h128) call fun v_129 h130 =>
k120 .ret (upd (upd (upd (upd (upd (upd (enterT [l_a0, n_a1]) 4 v_0) 8 v_121) 9 v_123) 10 v_125) 11 v_127) 4 v_129) h130) (
k120 .normal (upd (upd (upd (upd (enterT [l_a0, n_a1]) 4 v_0) 8 v_121) 9 v_123) 10 v_125) h126)
theorem E_precentorref9_Put (call : FuncId → List AVal → Heap → Res AVal) (fuel : Nat) (l_a0 n_a1 : AVal) (h : Heap) : bodyR Try.prog call fuel Try.f37 [l_a0, n_a1] h = S_precentorref9_Put Try.prog call fuel l_a0 n_a1 h := by kernel_rfl
theorem R_precentorref9_Put {X : XTab} (l_a0 n_a1 : AVal) {h : Heap} {Q : AVal → Heap → Prop} (hx : X F_precentorref9_Put [l_a0, n_a1] = none) (q : Tells (fun m => S_precentorref9_Put Try.prog (acallX Try.prog X m) m l_a0 n_a1 h) Q) :
    Tells (fun m => acallX Try.prog X m F_precentorref9_Put [l_a0, n_a1] h) Q :=
  Tells.later (q.le fun m => (E_precentorref9_Put (acallX Try.prog X m) m l_a0 n_a1 h) ▸ acallX_le Try.func37 hx m h)

/-! ### precentor/precentorref9.has -/

def S_precentorref9_has (P : Program) (call : FuncId → List AVal → Heap → Res AVal) (fuel : Nat) (p_a0 b_a1 : AVal) (h : Heap) : Res AVal :=
lt (retK P [.tmp 4]) fun k =>
arb (.val (.bool false) h) call fun v_0 h1 =>
arb (.val p_a0 h1) call fun v_2 h3 =>
arb (.call F_precentorref9_RightTree [v_2] h3) call fun v_4 h5 =>
arb (.val v_4 h5) call fun v_6 h7 =>
gd (wantB v_6 true) (fun c => arb (.val b_a1 h7) call c) h7 fun v_8 h9 =>
gd (wantB v_6 true) (fun c => arb (.of (aBin P .geq 3 (.tmp 8) (.const (.int .i64 0)) v_8 (.int .i64 0)) h9) call c) h9 fun v_10 h11 =>
arb (pkR v_6 v_10 (.bool false) h11) call fun v_12 h13 =>
arb (.val v_12 h13) call fun v_14 h15 =>
gd (wantB v_14 true) (fun c => arb (.val b_a1 h15) call c) h15 fun v_16 h17 =>
gd (wantB v_14 true) (fun c => arb (.val p_a0 h17) call c) h17 fun v_18 h19 =>
gd (wantB v_14 true) (fun c => arb (.of (lenL v_18) h19) call c) h19 fun v_20 h21 =>
gd (wantB v_14 true) (fun c => arb (.of (aBin P .leq 3 (.tmp 12) (.tmp 14) v_16 v_20) h21) call c) h21 fun v_22 h23 =>
arb (pkR v_14 v_22 (.bool false) h23) call fun v_24 h25 =>
arb (.val v_24 h25) call fun v_26 h27 =>
k .ret (upd (upd (upd (upd (upd (upd (upd (upd (upd (upd (upd (upd (upd (upd (enterT [p_a0, b_a1]) 4 v_0) 5 v_2) 6 v_4) 7 v_6) 8 v_8) 9 v_10) 10 v_12) 11 v_14) 12 v_16) 13 v_18) 14 v_20) 15 v_22) 16 v_24) 4 v_26) h27
theorem E_precentorref9_has (call : FuncId → List AVal → Heap → Res AVal) (fuel : Nat) (p_a0 b_a1 : AVal) (h : Heap) : bodyR Try.prog call fuel Try.f41 [p_a0, b_a1] h = S_precentorref9_has Try.prog call fuel p_a0 b_a1 h := by kernel_rfl
theorem R_precentorref9_has {X : XTab} (p_a0 b_a1 : AVal) {h : Heap} {Q : AVal → Heap → Prop} (hx : X F_precentorref9_has [p_a0, b_a1] = none) (q : Tells (fun m => S_precentorref9_has Try.prog (acallX Try.prog X m) m p_a0 b_a1 h) Q) :
    Tells (fun m => acallX Try.prog X m F_precentorref9_has [p_a0, b_a1] h) Q :=
  Tells.later (q.le fun m => (E_precentorref9_has (acallX Try.prog X m) m p_a0 b_a1 h) ▸ acallX_le Try.func41 hx m h)


end Go.Proofs.Ytchmlbjjadlleaa
