/-
  Functions of precentorref9 in the form of YthachecebkmlaaaABS (printed by a program of ours, gen.lean).
-/
import Derived.Test.YthachecebkmlaaaSIds
set_option linter.unusedVariables false
namespace Go.Proofs.Ythachecebkmlaaa
open Go.Ab
/-! ### precentor/precentorref9.RightTree -/
def J_precentorref9_RightTree_0 (P : Program) (call : FuncId → List AVal → Heap → Res AVal) (fuel : Nat) (k : Kn (AVal)) (t : T) (h : Heap) : Res (AVal) :=
arb (.val (t 0) h) call fun v_2 h3 =>
arb (.of (lenL v_2) h3) call fun v_4 h5 =>
arb (.of (aBin P .leq 3 (.tmp 24) (.const (.int .i64 7)) v_4 (.int .i64 7)) h5) call fun v_6 h7 =>
arb (.val v_6 h7) call fun v_8 h9 =>
k .ret (upd (upd (upd (upd t 23 v_2) 24 v_4) 25 v_6) 2 v_8) h9

def J_precentorref9_RightTree_3 (P : Program) (call : FuncId → List AVal → Heap → Res AVal) (fuel : Nat) (k : Kn (Ex × T)) (t : T) (h : Heap) : Res (Ex × T) :=
arb (.val (t 3) h) call fun v_14 h15 =>
arb (.of (aBin P .add 3 (.tmp 8) (.const (.int .i64 1)) v_14 (.int .i64 1)) h15) call fun v_16 h17 =>
arb (.val v_16 h17) call fun i_18 h19 =>
k .normal (upd (upd (upd t 8 v_14) 9 v_16) 3 i_18) h19

def J_precentorref9_RightTree_2 (P : Program) (call : FuncId → List AVal → Heap → Res AVal) (fuel : Nat) (k : Kn (Ex × T)) (t : T) (h : Heap) : Res (Ex × T) :=
lt (sqK (J_precentorref9_RightTree_3 P call fuel k) k) fun k20 =>
lt (blkK 1 k20) fun k21 =>
arb (.val (t 0) h) call fun v_22 h23 =>
arb (.val (t 3) h23) call fun v_24 h25 =>
arb (.of (ixsR 1 v_22 v_24) h25) call fun v_26 h27 =>
arb (.of (ld1 h27 v_26) h27) call fun v_28 h29 =>
arb (.of (aBin P .lss 3 (.tmp 13) (.const (.int .i64 0)) v_28 (.int .i64 0)) h29) call fun v_30 h31 =>
arb (.val v_30 h31) call fun v_32 h33 =>
gd (wantB v_32 false) (fun c => arb (.val (t 0) h33) call c) h33 fun v_34 h35 =>
gd (wantB v_32 false) (fun c => arb (.val (t 3) h35) call c) h35 fun v_36 h37 =>
gd (wantB v_32 false) (fun c => arb (.of (ixsR 1 v_34 v_36) h37) call c) h37 fun v_38 h39 =>
gd (wantB v_32 false) (fun c => arb (.of (ld1 h39 v_38) h39) call c) h39 fun v_40 h41 =>
gd (wantB v_32 false) (fun c => arb (.val (t 3) h41) call c) h41 fun v_42 h43 =>
gd (wantB v_32 false) (fun c => arb (.of (aBin P .gtr 3 (.tmp 19) (.tmp 20) v_40 v_42) h43) call c) h43 fun v_44 h45 =>
arb (pkR v_32 (.bool true) v_44 h45) call fun v_46 h47 =>
cb v_46 (
arb (.val (.bool false) h47) call fun v_48 h49 =>
k21 .ret (upd (upd (upd (upd (upd (upd (upd (upd (upd (upd (upd (upd (upd (upd t 10 v_22) 11 v_24) 12 v_26) 13 v_28) 14 v_30) 15 v_32) 16 v_34) 17 v_36) 18 v_38) 19 v_40) 20 v_42) 21 v_44) 22 v_46) 2 v_48) h49) (
k21 .normal (upd (upd (upd (upd (upd (upd (upd (upd (upd (upd (upd (upd (upd t 10 v_22) 11 v_24) 12 v_26) 13 v_28) 14 v_30) 15 v_32) 16 v_34) 17 v_36) 18 v_38) 19 v_40) 20 v_42) 21 v_44) 22 v_46) h47)

def L_precentorref9_RightTree_1 (P : Program) (call : FuncId → List AVal → Heap → Res AVal) (fuel : Nat) (t : T) (h : Heap) : Res (Ex × T) :=
lt okK fun k =>
lt (sqK (J_precentorref9_RightTree_2 P call fuel k) k) fun k50 =>
arb (.val (t 3) h) call fun v_51 h52 =>
arb (.val (t 0) h52) call fun v_53 h54 =>
arb (.of (lenL v_53) h54) call fun v_55 h56 =>
arb (.of (aBin P .lss 3 (.tmp 4) (.tmp 6) v_51 v_55) h56) call fun v_57 h58 =>
cb v_57 (
k50 .normal (upd (upd (upd (upd t 4 v_51) 5 v_53) 6 v_55) 7 v_57) h58) (
k50 (.exit 0) (upd (upd (upd (upd t 4 v_51) 5 v_53) 6 v_55) 7 v_57) h58)

def S_precentorref9_RightTree (P : Program) (call : FuncId → List AVal → Heap → Res AVal) (fuel : Nat) (p_a0 : AVal) (h : Heap) : Res AVal :=
lt (retK P [.tmp 2]) fun k =>
arb (.val (.bool false) h) call fun v_0 h1 =>
lt (sqK (J_precentorref9_RightTree_0 P call fuel k) k) fun k10 =>
arb (.val (.int .i64 0) h1) call fun i_11 h12 =>
lt (blkK 0 k10) fun k13 =>
(loopN (L_precentorref9_RightTree_1 P call fuel) fuel (upd (upd (enterT [p_a0]) 2 v_0) 3 i_11) h12).bind (lpK k13)
theorem E_precentorref9_RightTree (call : FuncId → List AVal → Heap → Res AVal) (fuel : Nat) (p_a0 : AVal) (h : Heap) : bodyR Try.prog call fuel Try.f10 [p_a0] h = S_precentorref9_RightTree Try.prog call fuel p_a0 h := by kernel_rfl
theorem R_precentorref9_RightTree {X : XTab} (p_a0 : AVal) {h : Heap} {Q : AVal → Heap → Prop} (hx : X F_precentorref9_RightTree [p_a0] = none) (q : Tells (fun m => S_precentorref9_RightTree Try.prog (acallX Try.prog X m) m p_a0 h) Q) :
    Tells (fun m => acallX Try.prog X m F_precentorref9_RightTree [p_a0] h) Q :=
  Tells.later (q.le fun m => (E_precentorref9_RightTree (acallX Try.prog X m) m p_a0 h) ▸ acallX_le Try.func10 hx m h)

/-! ### precentor/precentorref9.Near -/
def J_precentorref9_Near_1 (P : Program) (call : FuncId → List AVal → Heap → Res AVal) (fuel : Nat) (k : Kn (AVal)) (t : T) (h : Heap) : Res (AVal) :=
arb (.val (t 5) h) call fun v_4 h5 =>
arb (.val v_4 h5) call fun v_6 h7 =>
k .ret (upd (upd t 27 v_4) 4 v_6) h7

def J_precentorref9_Near_4 (P : Program) (call : FuncId → List AVal → Heap → Res AVal) (fuel : Nat) (k : Kn (Ex × T)) (t : T) (h : Heap) : Res (Ex × T) :=
arb (.val (t 6) h) call fun v_12 h13 =>
arb (.of (aBin P .add 3 (.tmp 16) (.const (.int .i64 1)) v_12 (.int .i64 1)) h13) call fun v_14 h15 =>
arb (.val v_14 h15) call fun x_16 h17 =>
k .normal (upd (upd (upd t 16 v_12) 17 v_14) 6 x_16) h17

def J_precentorref9_Near_3 (P : Program) (call : FuncId → List AVal → Heap → Res AVal) (fuel : Nat) (k : Kn (Ex × T)) (t : T) (h : Heap) : Res (Ex × T) :=
lt (sqK (J_precentorref9_Near_4 P call fuel k) k) fun k18 =>
lt (blkK 1 k18) fun k19 =>
arb (.val (t 0) h) call fun v_20 h21 =>
arb (.val (t 1) h21) call fun v_22 h23 =>
arb (.val (t 6) h23) call fun v_24 h25 =>
arb (.call F_precentorref9_Dist [v_20, v_22, v_24] h25) call fun v_26 h27 =>
arb (.of (aBin P .eql 3 (.tmp 21) (.const (.int .i64 1)) v_26 (.int .i64 1)) h27) call fun v_28 h29 =>
cb v_28 (
arb (.val (t 5) h29) call fun v_30 h31 =>
arb (.val (t 6) h31) call fun v_32 h33 =>
arb (bslR 1 [(.int .i64 0)] 1 h33 [(0, 1, v_32)]) call fun v_34 h35 =>
arb (appR 1 8 h35 v_30 v_34) call fun v_36 h37 =>
arb (.val v_36 h37) call fun l_38 h39 =>
k19 .normal (upd (upd (upd (upd (upd (upd (upd (upd (upd (upd t 18 v_20) 19 v_22) 20 v_24) 21 v_26) 22 v_28) 23 v_30) 24 v_32) 25 v_34) 26 v_36) 5 l_38) h39) (
k19 .normal (upd (upd (upd (upd (upd t 18 v_20) 19 v_22) 20 v_24) 21 v_26) 22 v_28) h29)

def L_precentorref9_Near_2 (P : Program) (call : FuncId → List AVal → Heap → Res AVal) (fuel : Nat) (t : T) (h : Heap) : Res (Ex × T) :=
lt okK fun k =>
lt (sqK (J_precentorref9_Near_3 P call fuel k) k) fun k40 =>
arb (.val (t 6) h) call fun v_41 h42 =>
arb (.val (t 0) h42) call fun v_43 h44 =>
arb (.of (lenL v_43) h44) call fun v_45 h46 =>
arb (.of (aBin P .leq 3 (.tmp 12) (.tmp 14) v_41 v_45) h46) call fun v_47 h48 =>
cb v_47 (
k40 .normal (upd (upd (upd (upd t 12 v_41) 13 v_43) 14 v_45) 15 v_47) h48) (
k40 (.exit 0) (upd (upd (upd (upd t 12 v_41) 13 v_43) 14 v_45) 15 v_47) h48)

def J_precentorref9_Near_0 (P : Program) (call : FuncId → List AVal → Heap → Res AVal) (fuel : Nat) (k : Kn (AVal)) (t : T) (h : Heap) : Res (AVal) :=
lt (sqK (J_precentorref9_Near_1 P call fuel k) k) fun k8 =>
arb (.val (.int .i64 0) h) call fun x_9 h10 =>
lt (blkK 0 k8) fun k11 =>
(loopN (L_precentorref9_Near_2 P call fuel) fuel (upd t 6 x_9) h10).bind (lpK k11)

def S_precentorref9_Near (P : Program) (call : FuncId → List AVal → Heap → Res AVal) (fuel : Nat) (p_a0 b_a1 : AVal) (h : Heap) : Res AVal :=
lt (retK P [.tmp 4]) fun k =>
arb (.val .nils h) call fun v_0 h1 =>
arb (.val .nils h1) call fun l_2 h3 =>
lt (sqK (J_precentorref9_Near_0 P call fuel k) k) fun k49 =>
arb (.val p_a0 h3) call fun v_50 h51 =>
arb (.val b_a1 h51) call fun v_52 h53 =>
arb (.call F_precentorref9_has [v_50, v_52] h53) call fun v_54 h55 =>
arb (.of (aUn P .not v_54) h55) call fun v_56 h57 =>
cb v_56 (
arb (.val l_2 h57) call fun v_58 h59 =>
arb (.val v_58 h59) call fun v_60 h61 =>
k49 .ret (upd (upd (upd (upd (upd (upd (upd (upd (enterT [p_a0, b_a1]) 4 v_0) 5 l_2) 7 v_50) 8 v_52) 9 v_54) 10 v_56) 11 v_58) 4 v_60) h61) (
k49 .normal (upd (upd (upd (upd (upd (upd (enterT [p_a0, b_a1]) 4 v_0) 5 l_2) 7 v_50) 8 v_52) 9 v_54) 10 v_56) h57)
theorem E_precentorref9_Near (call : FuncId → List AVal → Heap → Res AVal) (fuel : Nat) (p_a0 b_a1 : AVal) (h : Heap) : bodyR Try.prog call fuel Try.f14 [p_a0, b_a1] h = S_precentorref9_Near Try.prog call fuel p_a0 b_a1 h := by kernel_rfl
theorem R_precentorref9_Near {X : XTab} (p_a0 b_a1 : AVal) {h : Heap} {Q : AVal → Heap → Prop} (hx : X F_precentorref9_Near [p_a0, b_a1] = none) (q : Tells (fun m => S_precentorref9_Near Try.prog (acallX Try.prog X m) m p_a0 b_a1 h) Q) :
    Tells (fun m => acallX Try.prog X m F_precentorref9_Near [p_a0, b_a1] h) Q :=
  Tells.later (q.le fun m => (E_precentorref9_Near (acallX Try.prog X m) m p_a0 b_a1 h) ▸ acallX_le Try.func14 hx m h)

/-! ### precentor/precentorref9.Kids -/
def J_precentorref9_Kids_1 (P : Program) (call : FuncId → List AVal → Heap → Res AVal) (fuel : Nat) (k : Kn (AVal)) (t : T) (h : Heap) : Res (AVal) :=
arb (.val (t 5) h) call fun v_4 h5 =>
arb (.val v_4 h5) call fun v_6 h7 =>
k .ret (upd (upd t 29 v_4) 4 v_6) h7

def J_precentorref9_Kids_4 (P : Program) (call : FuncId → List AVal → Heap → Res AVal) (fuel : Nat) (k : Kn (Ex × T)) (t : T) (h : Heap) : Res (Ex × T) :=
arb (.val (t 6) h) call fun v_12 h13 =>
arb (.of (aBin P .add 3 (.tmp 16) (.const (.int .i64 1)) v_12 (.int .i64 1)) h13) call fun v_14 h15 =>
arb (.val v_14 h15) call fun i_16 h17 =>
k .normal (upd (upd (upd t 16 v_12) 17 v_14) 6 i_16) h17

def J_precentorref9_Kids_3 (P : Program) (call : FuncId → List AVal → Heap → Res AVal) (fuel : Nat) (k : Kn (Ex × T)) (t : T) (h : Heap) : Res (Ex × T) :=
lt (sqK (J_precentorref9_Kids_4 P call fuel k) k) fun k18 =>
lt (blkK 1 k18) fun k19 =>
arb (.val (t 0) h) call fun v_20 h21 =>
arb (.val (t 6) h21) call fun v_22 h23 =>
arb (.of (ixsR 1 v_20 v_22) h23) call fun v_24 h25 =>
arb (.of (ld1 h25 v_24) h25) call fun v_26 h27 =>
arb (.val (t 1) h27) call fun v_28 h29 =>
arb (.of (aBin P .eql 3 (.tmp 21) (.tmp 22) v_26 v_28) h29) call fun v_30 h31 =>
cb v_30 (
arb (.val (t 5) h31) call fun v_32 h33 =>
arb (.val (t 6) h33) call fun v_34 h35 =>
arb (.of (aBin P .add 3 (.tmp 25) (.const (.int .i64 1)) v_34 (.int .i64 1)) h35) call fun v_36 h37 =>
arb (bslR 1 [(.int .i64 0)] 1 h37 [(0, 1, v_36)]) call fun v_38 h39 =>
arb (appR 1 8 h39 v_32 v_38) call fun v_40 h41 =>
arb (.val v_40 h41) call fun l_42 h43 =>
k19 .normal (upd (upd (upd (upd (upd (upd (upd (upd (upd (upd (upd (upd t 18 v_20) 19 v_22) 20 v_24) 21 v_26) 22 v_28) 23 v_30) 24 v_32) 25 v_34) 26 v_36) 27 v_38) 28 v_40) 5 l_42) h43) (
k19 .normal (upd (upd (upd (upd (upd (upd t 18 v_20) 19 v_22) 20 v_24) 21 v_26) 22 v_28) 23 v_30) h31)

def L_precentorref9_Kids_2 (P : Program) (call : FuncId → List AVal → Heap → Res AVal) (fuel : Nat) (t : T) (h : Heap) : Res (Ex × T) :=
lt okK fun k =>
lt (sqK (J_precentorref9_Kids_3 P call fuel k) k) fun k44 =>
arb (.val (t 6) h) call fun v_45 h46 =>
arb (.val (t 0) h46) call fun v_47 h48 =>
arb (.of (lenL v_47) h48) call fun v_49 h50 =>
arb (.of (aBin P .lss 3 (.tmp 12) (.tmp 14) v_45 v_49) h50) call fun v_51 h52 =>
cb v_51 (
k44 .normal (upd (upd (upd (upd t 12 v_45) 13 v_47) 14 v_49) 15 v_51) h52) (
k44 (.exit 0) (upd (upd (upd (upd t 12 v_45) 13 v_47) 14 v_49) 15 v_51) h52)

def J_precentorref9_Kids_0 (P : Program) (call : FuncId → List AVal → Heap → Res AVal) (fuel : Nat) (k : Kn (AVal)) (t : T) (h : Heap) : Res (AVal) :=
lt (sqK (J_precentorref9_Kids_1 P call fuel k) k) fun k8 =>
arb (.val (.int .i64 0) h) call fun i_9 h10 =>
lt (blkK 0 k8) fun k11 =>
(loopN (L_precentorref9_Kids_2 P call fuel) fuel (upd t 6 i_9) h10).bind (lpK k11)

def S_precentorref9_Kids (P : Program) (call : FuncId → List AVal → Heap → Res AVal) (fuel : Nat) (p_a0 b_a1 : AVal) (h : Heap) : Res AVal :=
lt (retK P [.tmp 4]) fun k =>
arb (.val .nils h) call fun v_0 h1 =>
arb (.val .nils h1) call fun l_2 h3 =>
lt (sqK (J_precentorref9_Kids_0 P call fuel k) k) fun k53 =>
arb (.val p_a0 h3) call fun v_54 h55 =>
arb (.val b_a1 h55) call fun v_56 h57 =>
arb (.call F_precentorref9_has [v_54, v_56] h57) call fun v_58 h59 =>
arb (.of (aUn P .not v_58) h59) call fun v_60 h61 =>
cb v_60 (
arb (.val l_2 h61) call fun v_62 h63 =>
arb (.val v_62 h63) call fun v_64 h65 =>
k53 .ret (upd (upd (upd (upd (upd (upd (upd (upd (enterT [p_a0, b_a1]) 4 v_0) 5 l_2) 7 v_54) 8 v_56) 9 v_58) 10 v_60) 11 v_62) 4 v_64) h65) (
k53 .normal (upd (upd (upd (upd (upd (upd (enterT [p_a0, b_a1]) 4 v_0) 5 l_2) 7 v_54) 8 v_56) 9 v_58) 10 v_60) h61)
theorem E_precentorref9_Kids (call : FuncId → List AVal → Heap → Res AVal) (fuel : Nat) (p_a0 b_a1 : AVal) (h : Heap) : bodyR Try.prog call fuel Try.f16 [p_a0, b_a1] h = S_precentorref9_Kids Try.prog call fuel p_a0 b_a1 h := by kernel_rfl
theorem R_precentorref9_Kids {X : XTab} (p_a0 b_a1 : AVal) {h : Heap} {Q : AVal → Heap → Prop} (hx : X F_precentorref9_Kids [p_a0, b_a1] = none) (q : Tells (fun m => S_precentorref9_Kids Try.prog (acallX Try.prog X m) m p_a0 b_a1 h) Q) :
    Tells (fun m => acallX Try.prog X m F_precentorref9_Kids [p_a0, b_a1] h) Q :=
  Tells.later (q.le fun m => (E_precentorref9_Kids (acallX Try.prog X m) m p_a0 b_a1 h) ▸ acallX_le Try.func16 hx m h)

/-! ### precentor/precentorref9.Next -/
def J_precentorref9_Next_0 (P : Program) (call : FuncId → List AVal → Heap → Res AVal) (fuel : Nat) (k : Kn (AVal)) (t : T) (h : Heap) : Res (AVal) :=
arb (.val (t 0) h) call fun v_2 h3 =>
arb (.val (t 1) h3) call fun v_4 h5 =>
arb (.val (t 2) h5) call fun v_6 h7 =>
arb (.call F_precentorref9_Way [v_2, v_4, v_6] h7) call fun v_8 h9 =>
arb (.of (ixsR 1 v_8 (.int .i64 1)) h9) call fun v_10 h11 =>
arb (.of (ld1 h11 v_10) h11) call fun v_12 h13 =>
arb (.val v_12 h13) call fun v_14 h15 =>
k .ret (upd (upd (upd (upd (upd (upd (upd t 22 v_2) 23 v_4) 24 v_6) 25 v_8) 26 v_10) 27 v_12) 6 v_14) h15

def S_precentorref9_Next (P : Program) (call : FuncId → List AVal → Heap → Res AVal) (fuel : Nat) (p_a0 from_a1 to_a2 : AVal) (h : Heap) : Res AVal :=
lt (retK P [.tmp 6]) fun k =>
arb (.val (.int .i64 0) h) call fun v_0 h1 =>
lt (sqK (J_precentorref9_Next_0 P call fuel k) k) fun k16 =>
arb (.val p_a0 h1) call fun v_17 h18 =>
arb (.val from_a1 h18) call fun v_19 h20 =>
arb (.call F_precentorref9_has [v_17, v_19] h20) call fun v_21 h22 =>
arb (.of (aUn P .not v_21) h22) call fun v_23 h24 =>
arb (.val v_23 h24) call fun v_25 h26 =>
gd (wantB v_25 false) (fun c => arb (.val p_a0 h26) call c) h26 fun v_27 h28 =>
gd (wantB v_25 false) (fun c => arb (.val to_a2 h28) call c) h28 fun v_29 h30 =>
gd (wantB v_25 false) (fun c => arb (.call F_precentorref9_has [v_27, v_29] h30) call c) h30 fun v_31 h32 =>
gd (wantB v_25 false) (fun c => arb (.of (aUn P .not v_31) h32) call c) h32 fun v_33 h34 =>
arb (pkR v_25 (.bool true) v_33 h34) call fun v_35 h36 =>
arb (.val v_35 h36) call fun v_37 h38 =>
gd (wantB v_37 false) (fun c => arb (.val from_a1 h38) call c) h38 fun v_39 h40 =>
gd (wantB v_37 false) (fun c => arb (.val to_a2 h40) call c) h40 fun v_41 h42 =>
gd (wantB v_37 false) (fun c => arb (.of (aBin P .eql 3 (.tmp 18) (.tmp 19) v_39 v_41) h42) call c) h42 fun v_43 h44 =>
arb (pkR v_37 (.bool true) v_43 h44) call fun v_45 h46 =>
cb v_45 (
arb (.val (.int .i64 (-1)) h46) call fun v_47 h48 =>
k16 .ret (upd (upd (upd (upd (upd (upd (upd (upd (upd (upd (upd (upd (upd (upd (upd (upd (upd (enterT [p_a0, from_a1, to_a2]) 6 v_0) 7 v_17) 8 v_19) 9 v_21) 10 v_23) 11 v_25) 12 v_27) 13 v_29) 14 v_31) 15 v_33) 16 v_35) 17 v_37) 18 v_39) 19 v_41) 20 v_43) 21 v_45) 6 v_47) h48) (
k16 .normal (upd (upd (upd (upd (upd (upd (upd (upd (upd (upd (upd (upd (upd (upd (upd (upd (enterT [p_a0, from_a1, to_a2]) 6 v_0) 7 v_17) 8 v_19) 9 v_21) 10 v_23) 11 v_25) 12 v_27) 13 v_29) 14 v_31) 15 v_33) 16 v_35) 17 v_37) 18 v_39) 19 v_41) 20 v_43) 21 v_45) h46)
theorem E_precentorref9_Next (call : FuncId → List AVal → Heap → Res AVal) (fuel : Nat) (p_a0 from_a1 to_a2 : AVal) (h : Heap) : bodyR Try.prog call fuel Try.f18 [p_a0, from_a1, to_a2] h = S_precentorref9_Next Try.prog call fuel p_a0 from_a1 to_a2 h := by kernel_rfl
theorem R_precentorref9_Next {X : XTab} (p_a0 from_a1 to_a2 : AVal) {h : Heap} {Q : AVal → Heap → Prop} (hx : X F_precentorref9_Next [p_a0, from_a1, to_a2] = none) (q : Tells (fun m => S_precentorref9_Next Try.prog (acallX Try.prog X m) m p_a0 from_a1 to_a2 h) Q) :
    Tells (fun m => acallX Try.prog X m F_precentorref9_Next [p_a0, from_a1, to_a2] h) Q :=
  Tells.later (q.le fun m => (E_precentorref9_Next (acallX Try.prog X m) m p_a0 from_a1 to_a2 h) ▸ acallX_le Try.func18 hx m h)

/-! ### precentor/precentorref9.Dist -/
def J_precentorref9_Dist_0 (P : Program) (call : FuncId → List AVal → Heap → Res AVal) (fuel : Nat) (k : Kn (AVal)) (t : T) (h : Heap) : Res (AVal) :=
arb (.val (t 0) h) call fun v_2 h3 =>
arb (.val (t 1) h3) call fun v_4 h5 =>
arb (.val (t 2) h5) call fun v_6 h7 =>
arb (.call F_precentorref9_Way [v_2, v_4, v_6] h7) call fun v_8 h9 =>
arb (.of (lenL v_8) h9) call fun v_10 h11 =>
arb (.of (aBin P .sub 3 (.tmp 21) (.const (.int .i64 1)) v_10 (.int .i64 1)) h11) call fun v_12 h13 =>
arb (.val v_12 h13) call fun v_14 h15 =>
k .ret (upd (upd (upd (upd (upd (upd (upd t 17 v_2) 18 v_4) 19 v_6) 20 v_8) 21 v_10) 22 v_12) 6 v_14) h15

def S_precentorref9_Dist (P : Program) (call : FuncId → List AVal → Heap → Res AVal) (fuel : Nat) (p_a0 a_a1 b_a2 : AVal) (h : Heap) : Res AVal :=
lt (retK P [.tmp 6]) fun k =>
arb (.val (.int .i64 0) h) call fun v_0 h1 =>
lt (sqK (J_precentorref9_Dist_0 P call fuel k) k) fun k16 =>
arb (.val p_a0 h1) call fun v_17 h18 =>
arb (.val a_a1 h18) call fun v_19 h20 =>
arb (.call F_precentorref9_has [v_17, v_19] h20) call fun v_21 h22 =>
arb (.of (aUn P .not v_21) h22) call fun v_23 h24 =>
arb (.val v_23 h24) call fun v_25 h26 =>
gd (wantB v_25 false) (fun c => arb (.val p_a0 h26) call c) h26 fun v_27 h28 =>
gd (wantB v_25 false) (fun c => arb (.val b_a2 h28) call c) h28 fun v_29 h30 =>
gd (wantB v_25 false) (fun c => arb (.call F_precentorref9_has [v_27, v_29] h30) call c) h30 fun v_31 h32 =>
gd (wantB v_25 false) (fun c => arb (.of (aUn P .not v_31) h32) call c) h32 fun v_33 h34 =>
arb (pkR v_25 (.bool true) v_33 h34) call fun v_35 h36 =>
cb v_35 (
arb (.val (.int .i64 (-1)) h36) call fun v_37 h38 =>
k16 .ret (upd (upd (upd (upd (upd (upd (upd (upd (upd (upd (upd (upd (enterT [p_a0, a_a1, b_a2]) 6 v_0) 7 v_17) 8 v_19) 9 v_21) 10 v_23) 11 v_25) 12 v_27) 13 v_29) 14 v_31) 15 v_33) 16 v_35) 6 v_37) h38) (
k16 .normal (upd (upd (upd (upd (upd (upd (upd (upd (upd (upd (upd (enterT [p_a0, a_a1, b_a2]) 6 v_0) 7 v_17) 8 v_19) 9 v_21) 10 v_23) 11 v_25) 12 v_27) 13 v_29) 14 v_31) 15 v_33) 16 v_35) h36)
theorem E_precentorref9_Dist (call : FuncId → List AVal → Heap → Res AVal) (fuel : Nat) (p_a0 a_a1 b_a2 : AVal) (h : Heap) : bodyR Try.prog call fuel Try.f20 [p_a0, a_a1, b_a2] h = S_precentorref9_Dist Try.prog call fuel p_a0 a_a1 b_a2 h := by kernel_rfl
theorem R_precentorref9_Dist {X : XTab} (p_a0 a_a1 b_a2 : AVal) {h : Heap} {Q : AVal → Heap → Prop} (hx : X F_precentorref9_Dist [p_a0, a_a1, b_a2] = none) (q : Tells (fun m => S_precentorref9_Dist Try.prog (acallX Try.prog X m) m p_a0 a_a1 b_a2 h) Q) :
    Tells (fun m => acallX Try.prog X m F_precentorref9_Dist [p_a0, a_a1, b_a2] h) Q :=
  Tells.later (q.le fun m => (E_precentorref9_Dist (acallX Try.prog X m) m p_a0 a_a1 b_a2 h) ▸ acallX_le Try.func20 hx m h)

/-! ### precentor/precentorref9.Side -/
def J_precentorref9_Side_1 (P : Program) (call : FuncId → List AVal → Heap → Res AVal) (fuel : Nat) (k : Kn (AVal)) (t : T) (h : Heap) : Res (AVal) :=
arb (.val (t 7) h) call fun v_4 h5 =>
arb (.val v_4 h5) call fun v_6 h7 =>
k .ret (upd (upd t 36 v_4) 6 v_6) h7

def J_precentorref9_Side_4 (P : Program) (call : FuncId → List AVal → Heap → Res AVal) (fuel : Nat) (k : Kn (Ex × T)) (t : T) (h : Heap) : Res (Ex × T) :=
arb (.val (t 8) h) call fun v_12 h13 =>
arb (.of (aBin P .add 3 (.tmp 24) (.const (.int .i64 1)) v_12 (.int .i64 1)) h13) call fun v_14 h15 =>
arb (.val v_14 h15) call fun x_16 h17 =>
k .normal (upd (upd (upd t 24 v_12) 25 v_14) 8 x_16) h17

def J_precentorref9_Side_3 (P : Program) (call : FuncId → List AVal → Heap → Res AVal) (fuel : Nat) (k : Kn (Ex × T)) (t : T) (h : Heap) : Res (Ex × T) :=
lt (sqK (J_precentorref9_Side_4 P call fuel k) k) fun k18 =>
lt (blkK 1 k18) fun k19 =>
arb (.val (t 0) h) call fun v_20 h21 =>
arb (.val (t 1) h21) call fun v_22 h23 =>
arb (.val (t 8) h23) call fun v_24 h25 =>
arb (.call F_precentorref9_Next [v_20, v_22, v_24] h25) call fun v_26 h27 =>
arb (.val (t 2) h27) call fun v_28 h29 =>
arb (.of (aBin P .eql 3 (.tmp 29) (.tmp 30) v_26 v_28) h29) call fun v_30 h31 =>
cb v_30 (
arb (.val (t 7) h31) call fun v_32 h33 =>
arb (.val (t 8) h33) call fun v_34 h35 =>
arb (bslR 1 [(.int .i64 0)] 1 h35 [(0, 1, v_34)]) call fun v_36 h37 =>
arb (appR 1 8 h37 v_32 v_36) call fun v_38 h39 =>
arb (.val v_38 h39) call fun l_40 h41 =>
k19 .normal (upd (upd (upd (upd (upd (upd (upd (upd (upd (upd (upd t 26 v_20) 27 v_22) 28 v_24) 29 v_26) 30 v_28) 31 v_30) 32 v_32) 33 v_34) 34 v_36) 35 v_38) 7 l_40) h41) (
k19 .normal (upd (upd (upd (upd (upd (upd t 26 v_20) 27 v_22) 28 v_24) 29 v_26) 30 v_28) 31 v_30) h31)

def L_precentorref9_Side_2 (P : Program) (call : FuncId → List AVal → Heap → Res AVal) (fuel : Nat) (t : T) (h : Heap) : Res (Ex × T) :=
lt okK fun k =>
lt (sqK (J_precentorref9_Side_3 P call fuel k) k) fun k42 =>
arb (.val (t 8) h) call fun v_43 h44 =>
arb (.val (t 0) h44) call fun v_45 h46 =>
arb (.of (lenL v_45) h46) call fun v_47 h48 =>
arb (.of (aBin P .leq 3 (.tmp 20) (.tmp 22) v_43 v_47) h48) call fun v_49 h50 =>
cb v_49 (
k42 .normal (upd (upd (upd (upd t 20 v_43) 21 v_45) 22 v_47) 23 v_49) h50) (
k42 (.exit 0) (upd (upd (upd (upd t 20 v_43) 21 v_45) 22 v_47) 23 v_49) h50)

def J_precentorref9_Side_0 (P : Program) (call : FuncId → List AVal → Heap → Res AVal) (fuel : Nat) (k : Kn (AVal)) (t : T) (h : Heap) : Res (AVal) :=
lt (sqK (J_precentorref9_Side_1 P call fuel k) k) fun k8 =>
arb (.val (.int .i64 0) h) call fun x_9 h10 =>
lt (blkK 0 k8) fun k11 =>
(loopN (L_precentorref9_Side_2 P call fuel) fuel (upd t 8 x_9) h10).bind (lpK k11)

def S_precentorref9_Side (P : Program) (call : FuncId → List AVal → Heap → Res AVal) (fuel : Nat) (p_a0 b_a1 n_a2 : AVal) (h : Heap) : Res AVal :=
lt (retK P [.tmp 6]) fun k =>
arb (.val .nils h) call fun v_0 h1 =>
arb (.val .nils h1) call fun l_2 h3 =>
lt (sqK (J_precentorref9_Side_0 P call fuel k) k) fun k51 =>
arb (.val p_a0 h3) call fun v_52 h53 =>
arb (.val b_a1 h53) call fun v_54 h55 =>
arb (.call F_precentorref9_has [v_52, v_54] h55) call fun v_56 h57 =>
arb (.of (aUn P .not v_56) h57) call fun v_58 h59 =>
arb (.val v_58 h59) call fun v_60 h61 =>
gd (wantB v_60 false) (fun c => arb (.val p_a0 h61) call c) h61 fun v_62 h63 =>
gd (wantB v_60 false) (fun c => arb (.val n_a2 h63) call c) h63 fun v_64 h65 =>
gd (wantB v_60 false) (fun c => arb (.call F_precentorref9_has [v_62, v_64] h65) call c) h65 fun v_66 h67 =>
gd (wantB v_60 false) (fun c => arb (.of (aUn P .not v_66) h67) call c) h67 fun v_68 h69 =>
arb (pkR v_60 (.bool true) v_68 h69) call fun v_70 h71 =>
cb v_70 (
arb (.val l_2 h71) call fun v_72 h73 =>
arb (.val v_72 h73) call fun v_74 h75 =>
k51 .ret (upd (upd (upd (upd (upd (upd (upd (upd (upd (upd (upd (upd (upd (upd (enterT [p_a0, b_a1, n_a2]) 6 v_0) 7 l_2) 9 v_52) 10 v_54) 11 v_56) 12 v_58) 13 v_60) 14 v_62) 15 v_64) 16 v_66) 17 v_68) 18 v_70) 19 v_72) 6 v_74) h75) (
k51 .normal (upd (upd (upd (upd (upd (upd (upd (upd (upd (upd (upd (upd (enterT [p_a0, b_a1, n_a2]) 6 v_0) 7 l_2) 9 v_52) 10 v_54) 11 v_56) 12 v_58) 13 v_60) 14 v_62) 15 v_64) 16 v_66) 17 v_68) 18 v_70) h71)
theorem E_precentorref9_Side (call : FuncId → List AVal → Heap → Res AVal) (fuel : Nat) (p_a0 b_a1 n_a2 : AVal) (h : Heap) : bodyR Try.prog call fuel Try.f22 [p_a0, b_a1, n_a2] h = S_precentorref9_Side Try.prog call fuel p_a0 b_a1 n_a2 h := by kernel_rfl
theorem R_precentorref9_Side {X : XTab} (p_a0 b_a1 n_a2 : AVal) {h : Heap} {Q : AVal → Heap → Prop} (hx : X F_precentorref9_Side [p_a0, b_a1, n_a2] = none) (q : Tells (fun m => S_precentorref9_Side Try.prog (acallX Try.prog X m) m p_a0 b_a1 n_a2 h) Q) :
    Tells (fun m => acallX Try.prog X m F_precentorref9_Side [p_a0, b_a1, n_a2] h) Q :=
  Tells.later (q.le fun m => (E_precentorref9_Side (acallX Try.prog X m) m p_a0 b_a1 n_a2 h) ▸ acallX_le Try.func22 hx m h)

/-! ### precentor/precentorref9.Place -/
def J_precentorref9_Place_1 (P : Program) (call : FuncId → List AVal → Heap → Res AVal) (fuel : Nat) (k : Kn (AVal)) (t : T) (h : Heap) : Res (AVal) :=
arb (.val (t 5) h) call fun v_6 h7 =>
arb (.val v_6 h7) call fun v_8 h9 =>
k .ret (upd (upd t 63 v_6) 4 v_8) h9

def J_precentorref9_Place_4 (P : Program) (call : FuncId → List AVal → Heap → Res AVal) (fuel : Nat) (k : Kn (Ex × T)) (t : T) (h : Heap) : Res (Ex × T) :=
arb (.val (t 8) h) call fun v_14 h15 =>
arb (.of (aBin P .add 3 (.tmp 37) (.const (.int .i64 1)) v_14 (.int .i64 1)) h15) call fun v_16 h17 =>
arb (.val v_16 h17) call fun x_18 h19 =>
k .normal (upd (upd (upd t 37 v_14) 38 v_16) 8 x_18) h19

def J_precentorref9_Place_5 (P : Program) (call : FuncId → List AVal → Heap → Res AVal) (fuel : Nat) (k : Kn (Ex × T)) (t : T) (h : Heap) : Res (Ex × T) :=
arb (.val (t 5) h) call fun v_24 h25 =>
arb (.of (aBin P .lss 3 (.tmp 54) (.const (.int .i64 0)) v_24 (.int .i64 0)) h25) call fun v_26 h27 =>
arb (.val v_26 h27) call fun v_28 h29 =>
gd (wantB v_28 false) (fun c => arb (.val (t 9) h29) call c) h29 fun v_30 h31 =>
gd (wantB v_28 false) (fun c => arb (.val (t 6) h31) call c) h31 fun v_32 h33 =>
gd (wantB v_28 false) (fun c => arb (.of (aBin P .lss 3 (.tmp 57) (.tmp 58) v_30 v_32) h33) call c) h33 fun v_34 h35 =>
arb (pkR v_28 (.bool true) v_34 h35) call fun v_36 h37 =>
cb v_36 (
arb (.val (t 8) h37) call fun v_38 h39 =>
arb (.val (t 9) h39) call fun v_40 h41 =>
arb (.val v_38 h41) call fun best_42 h43 =>
arb (.val v_40 h43) call fun least_44 h45 =>
k .normal (upd (upd (upd (upd (upd (upd (upd (upd (upd (upd (upd t 54 v_24) 55 v_26) 56 v_28) 57 v_30) 58 v_32) 59 v_34) 60 v_36) 61 v_38) 62 v_40) 5 best_42) 6 least_44) h45) (
k .normal (upd (upd (upd (upd (upd (upd (upd t 54 v_24) 55 v_26) 56 v_28) 57 v_30) 58 v_32) 59 v_34) 60 v_36) h37)

def J_precentorref9_Place_8 (P : Program) (call : FuncId → List AVal → Heap → Res AVal) (fuel : Nat) (k : Kn (Ex × T)) (t : T) (h : Heap) : Res (Ex × T) :=
arb (.val (t 10) h) call fun v_50 h51 =>
arb (.of (aBin P .add 3 (.tmp 43) (.const (.int .i64 1)) v_50 (.int .i64 1)) h51) call fun v_52 h53 =>
arb (.val v_52 h53) call fun i_54 h55 =>
k .normal (upd (upd (upd t 43 v_50) 44 v_52) 10 i_54) h55

def J_precentorref9_Place_7 (P : Program) (call : FuncId → List AVal → Heap → Res AVal) (fuel : Nat) (k : Kn (Ex × T)) (t : T) (h : Heap) : Res (Ex × T) :=
lt (sqK (J_precentorref9_Place_8 P call fuel k) k) fun k56 =>
lt (blkK 5 k56) fun k57 =>
arb (.val (t 9) h) call fun v_58 h59 =>
arb (.val (t 0) h59) call fun v_60 h61 =>
arb (.val (t 8) h61) call fun v_62 h63 =>
arb (.val (t 1) h63) call fun v_64 h65 =>
arb (.val (t 10) h65) call fun v_66 h67 =>
arb (.of (ixsR 1 v_64 v_66) h67) call fun v_68 h69 =>
arb (.of (ld1 h69 v_68) h69) call fun v_70 h71 =>
arb (.call F_precentorref9_Dist [v_60, v_62, v_70] h71) call fun v_72 h73 =>
arb (.of (aBin P .add 3 (.tmp 45) (.tmp 52) v_58 v_72) h73) call fun v_74 h75 =>
arb (.val v_74 h75) call fun sum_76 h77 =>
k57 .normal (upd (upd (upd (upd (upd (upd (upd (upd (upd (upd t 45 v_58) 46 v_60) 47 v_62) 48 v_64) 49 v_66) 50 v_68) 51 v_70) 52 v_72) 53 v_74) 9 sum_76) h77

def L_precentorref9_Place_6 (P : Program) (call : FuncId → List AVal → Heap → Res AVal) (fuel : Nat) (t : T) (h : Heap) : Res (Ex × T) :=
lt okK fun k =>
lt (sqK (J_precentorref9_Place_7 P call fuel k) k) fun k78 =>
arb (.val (t 10) h) call fun v_79 h80 =>
arb (.val (t 1) h80) call fun v_81 h82 =>
arb (.of (lenL v_81) h82) call fun v_83 h84 =>
arb (.of (aBin P .lss 3 (.tmp 39) (.tmp 41) v_79 v_83) h84) call fun v_85 h86 =>
cb v_85 (
k78 .normal (upd (upd (upd (upd t 39 v_79) 40 v_81) 41 v_83) 42 v_85) h86) (
k78 (.exit 4) (upd (upd (upd (upd t 39 v_79) 40 v_81) 41 v_83) 42 v_85) h86)

def J_precentorref9_Place_3 (P : Program) (call : FuncId → List AVal → Heap → Res AVal) (fuel : Nat) (k : Kn (Ex × T)) (t : T) (h : Heap) : Res (Ex × T) :=
lt (sqK (J_precentorref9_Place_4 P call fuel k) k) fun k20 =>
lt (blkK 3 k20) fun k21 =>
arb (.val (.int .i64 0) h) call fun sum_22 h23 =>
lt (sqK (J_precentorref9_Place_5 P call fuel k21) k21) fun k46 =>
arb (.val (.int .i64 0) h23) call fun i_47 h48 =>
lt (blkK 4 k46) fun k49 =>
(loopN (L_precentorref9_Place_6 P call fuel) fuel (upd (upd t 9 sum_22) 10 i_47) h48).bind (lpK k49)

def L_precentorref9_Place_2 (P : Program) (call : FuncId → List AVal → Heap → Res AVal) (fuel : Nat) (t : T) (h : Heap) : Res (Ex × T) :=
lt okK fun k =>
lt (sqK (J_precentorref9_Place_3 P call fuel k) k) fun k87 =>
arb (.val (t 0) h) call fun v_88 h89 =>
arb (.call F_precentorref9_RightTree [v_88] h89) call fun v_90 h91 =>
arb (.val v_90 h91) call fun v_92 h93 =>
gd (wantB v_92 true) (fun c => arb (.val (t 1) h93) call c) h93 fun v_94 h95 =>
gd (wantB v_92 true) (fun c => arb (.of (lenL v_94) h95) call c) h95 fun v_96 h97 =>
gd (wantB v_92 true) (fun c => arb (.of (aBin P .gtr 3 (.tmp 28) (.const (.int .i64 0)) v_96 (.int .i64 0)) h97) call c) h97 fun v_98 h99 =>
arb (pkR v_92 v_98 (.bool false) h99) call fun v_100 h101 =>
arb (.val v_100 h101) call fun v_102 h103 =>
gd (wantB v_102 true) (fun c => arb (.val (t 8) h103) call c) h103 fun v_104 h105 =>
gd (wantB v_102 true) (fun c => arb (.val (t 0) h105) call c) h105 fun v_106 h107 =>
gd (wantB v_102 true) (fun c => arb (.of (lenL v_106) h107) call c) h107 fun v_108 h109 =>
gd (wantB v_102 true) (fun c => arb (.of (aBin P .leq 3 (.tmp 32) (.tmp 34) v_104 v_108) h109) call c) h109 fun v_110 h111 =>
arb (pkR v_102 v_110 (.bool false) h111) call fun v_112 h113 =>
cb v_112 (
k87 .normal (upd (upd (upd (upd (upd (upd (upd (upd (upd (upd (upd (upd (upd t 24 v_88) 25 v_90) 26 v_92) 27 v_94) 28 v_96) 29 v_98) 30 v_100) 31 v_102) 32 v_104) 33 v_106) 34 v_108) 35 v_110) 36 v_112) h113) (
k87 (.exit 2) (upd (upd (upd (upd (upd (upd (upd (upd (upd (upd (upd (upd (upd t 24 v_88) 25 v_90) 26 v_92) 27 v_94) 28 v_96) 29 v_98) 30 v_100) 31 v_102) 32 v_104) 33 v_106) 34 v_108) 35 v_110) 36 v_112) h113)

def J_precentorref9_Place_0 (P : Program) (call : FuncId → List AVal → Heap → Res AVal) (fuel : Nat) (k : Kn (AVal)) (t : T) (h : Heap) : Res (AVal) :=
lt (sqK (J_precentorref9_Place_1 P call fuel k) k) fun k10 =>
arb (.val (.int .i64 0) h) call fun x_11 h12 =>
lt (blkK 2 k10) fun k13 =>
(loopN (L_precentorref9_Place_2 P call fuel) fuel (upd t 8 x_11) h12).bind (lpK k13)

def J_precentorref9_Place_11 (P : Program) (call : FuncId → List AVal → Heap → Res AVal) (fuel : Nat) (k : Kn (Ex × T)) (t : T) (h : Heap) : Res (Ex × T) :=
arb (.val (t 7) h) call fun v_118 h119 =>
arb (.of (aBin P .add 3 (.tmp 15) (.const (.int .i64 1)) v_118 (.int .i64 1)) h119) call fun v_120 h121 =>
arb (.val v_120 h121) call fun i_122 h123 =>
k .normal (upd (upd (upd t 15 v_118) 16 v_120) 7 i_122) h123

def J_precentorref9_Place_10 (P : Program) (call : FuncId → List AVal → Heap → Res AVal) (fuel : Nat) (k : Kn (Ex × T)) (t : T) (h : Heap) : Res (Ex × T) :=
lt (sqK (J_precentorref9_Place_11 P call fuel k) k) fun k124 =>
lt (blkK 1 k124) fun k125 =>
arb (.val (t 0) h) call fun v_126 h127 =>
arb (.val (t 1) h127) call fun v_128 h129 =>
arb (.val (t 7) h129) call fun v_130 h131 =>
arb (.of (ixsR 1 v_128 v_130) h131) call fun v_132 h133 =>
arb (.of (ld1 h133 v_132) h133) call fun v_134 h135 =>
arb (.call F_precentorref9_has [v_126, v_134] h135) call fun v_136 h137 =>
arb (.of (aUn P .not v_136) h137) call fun v_138 h139 =>
cb v_138 (
arb (.val (.int .i64 (-1)) h139) call fun v_140 h141 =>
k125 .ret (upd (upd (upd (upd (upd (upd (upd (upd t 17 v_126) 18 v_128) 19 v_130) 20 v_132) 21 v_134) 22 v_136) 23 v_138) 4 v_140) h141) (
k125 .normal (upd (upd (upd (upd (upd (upd (upd t 17 v_126) 18 v_128) 19 v_130) 20 v_132) 21 v_134) 22 v_136) 23 v_138) h139)

def L_precentorref9_Place_9 (P : Program) (call : FuncId → List AVal → Heap → Res AVal) (fuel : Nat) (t : T) (h : Heap) : Res (Ex × T) :=
lt okK fun k =>
lt (sqK (J_precentorref9_Place_10 P call fuel k) k) fun k142 =>
arb (.val (t 7) h) call fun v_143 h144 =>
arb (.val (t 1) h144) call fun v_145 h146 =>
arb (.of (lenL v_145) h146) call fun v_147 h148 =>
arb (.of (aBin P .lss 3 (.tmp 11) (.tmp 13) v_143 v_147) h148) call fun v_149 h150 =>
cb v_149 (
k142 .normal (upd (upd (upd (upd t 11 v_143) 12 v_145) 13 v_147) 14 v_149) h150) (
k142 (.exit 0) (upd (upd (upd (upd t 11 v_143) 12 v_145) 13 v_147) 14 v_149) h150)

def S_precentorref9_Place (P : Program) (call : FuncId → List AVal → Heap → Res AVal) (fuel : Nat) (p_a0 l_a1 : AVal) (h : Heap) : Res AVal :=
lt (retK P [.tmp 4]) fun k =>
arb (.val (.int .i64 0) h) call fun v_0 h1 =>
arb (.val (.int .i64 (-1)) h1) call fun best_2 h3 =>
arb (.val (.int .i64 0) h3) call fun least_4 h5 =>
lt (sqK (J_precentorref9_Place_0 P call fuel k) k) fun k114 =>
arb (.val (.int .i64 0) h5) call fun i_115 h116 =>
lt (blkK 0 k114) fun k117 =>
(loopN (L_precentorref9_Place_9 P call fuel) fuel (upd (upd (upd (upd (enterT [p_a0, l_a1]) 4 v_0) 5 best_2) 6 least_4) 7 i_115) h116).bind (lpK k117)
theorem E_precentorref9_Place (call : FuncId → List AVal → Heap → Res AVal) (fuel : Nat) (p_a0 l_a1 : AVal) (h : Heap) : bodyR Try.prog call fuel Try.f25 [p_a0, l_a1] h = S_precentorref9_Place Try.prog call fuel p_a0 l_a1 h := by kernel_rfl
theorem R_precentorref9_Place {X : XTab} (p_a0 l_a1 : AVal) {h : Heap} {Q : AVal → Heap → Prop} (hx : X F_precentorref9_Place [p_a0, l_a1] = none) (q : Tells (fun m => S_precentorref9_Place Try.prog (acallX Try.prog X m) m p_a0 l_a1 h) Q) :
    Tells (fun m => acallX Try.prog X m F_precentorref9_Place [p_a0, l_a1] h) Q :=
  Tells.later (q.le fun m => (E_precentorref9_Place (acallX Try.prog X m) m p_a0 l_a1 h) ▸ acallX_le Try.func25 hx m h)

/-! ### precentor/precentorref9.has -/

def S_precentorref9_has (P : Program) (call : FuncId → List AVal → Heap → Res AVal) (fuel : Nat) (p_a0 b_a1 : AVal) (h : Heap) : Res AVal :=
lt (retK P [.tmp 4]) fun k =>
arb (.val (.bool false) h) call fun v_0 h1 =>
arb (.val p_a0 h1) call fun v_2 h3 =>
arb (.call F_precentorref9_RightTree [v_2] h3) call fun v_4 h5 =>
arb (.val v_4 h5) call fun v_6 h7 =>
gd (wantB v_6 true) (fun c => arb (.val b_a1 h7) call c) h7 fun v_8 h9 =>
gd (wantB v_6 true) (fun c => arb (.of (aBin P .geq 3 (.tmp 8) (.const (.int .i64 0)) v_8 (.int .i64 0)) h9) call c) h9 fun v_10 h11 =>
arb (pkR v_6 v_10 (.bool false) h11) call fun v_12 h13 =>
arb (.val v_12 h13) call fun v_14 h15 =>
gd (wantB v_14 true) (fun c => arb (.val b_a1 h15) call c) h15 fun v_16 h17 =>
gd (wantB v_14 true) (fun c => arb (.val p_a0 h17) call c) h17 fun v_18 h19 =>
gd (wantB v_14 true) (fun c => arb (.of (lenL v_18) h19) call c) h19 fun v_20 h21 =>
gd (wantB v_14 true) (fun c => arb (.of (aBin P .leq 3 (.tmp 12) (.tmp 14) v_16 v_20) h21) call c) h21 fun v_22 h23 =>
arb (pkR v_14 v_22 (.bool false) h23) call fun v_24 h25 =>
arb (.val v_24 h25) call fun v_26 h27 =>
k .ret (upd (upd (upd (upd (upd (upd (upd (upd (upd (upd (upd (upd (upd (upd (enterT [p_a0, b_a1]) 4 v_0) 5 v_2) 6 v_4) 7 v_6) 8 v_8) 9 v_10) 10 v_12) 11 v_14) 12 v_16) 13 v_18) 14 v_20) 15 v_22) 16 v_24) 4 v_26) h27
theorem E_precentorref9_has (call : FuncId → List AVal → Heap → Res AVal) (fuel : Nat) (p_a0 b_a1 : AVal) (h : Heap) : bodyR Try.prog call fuel Try.f30 [p_a0, b_a1] h = S_precentorref9_has Try.prog call fuel p_a0 b_a1 h := by kernel_rfl
theorem R_precentorref9_has {X : XTab} (p_a0 b_a1 : AVal) {h : Heap} {Q : AVal → Heap → Prop} (hx : X F_precentorref9_has [p_a0, b_a1] = none) (q : Tells (fun m => S_precentorref9_has Try.prog (acallX Try.prog X m) m p_a0 b_a1 h) Q) :
    Tells (fun m => acallX Try.prog X m F_precentorref9_has [p_a0, b_a1] h) Q :=
  Tells.later (q.le fun m => (E_precentorref9_has (acallX Try.prog X m) m p_a0 b_a1 h) ▸ acallX_le Try.func30 hx m h)

/-! ### precentor/precentorref9.Way -/
def J_precentorref9_Way_1 (P : Program) (call : FuncId → List AVal → Heap → Res AVal) (fuel : Nat) (k : Kn (AVal)) (t : T) (h : Heap) : Res (AVal) :=
arb (.val (t 7) h) call fun v_18 h19 =>
arb (.val v_18 h19) call fun v_20 h21 =>
k .ret (upd (upd t 63 v_18) 6 v_20) h21

def J_precentorref9_Way_4 (P : Program) (call : FuncId → List AVal → Heap → Res AVal) (fuel : Nat) (k : Kn (Ex × T)) (t : T) (h : Heap) : Res (Ex × T) :=
arb (.val (t 9) h) call fun v_32 h33 =>
arb (.of (aBin P .sub 3 (.tmp 54) (.const (.int .i64 1)) v_32 (.int .i64 1)) h33) call fun v_34 h35 =>
arb (.val v_34 h35) call fun i_36 h37 =>
k .normal (upd (upd (upd t 54 v_32) 55 v_34) 9 i_36) h37

def J_precentorref9_Way_3 (P : Program) (call : FuncId → List AVal → Heap → Res AVal) (fuel : Nat) (k : Kn (Ex × T)) (t : T) (h : Heap) : Res (Ex × T) :=
lt (sqK (J_precentorref9_Way_4 P call fuel k) k) fun k38 =>
lt (blkK 3 k38) fun k39 =>
arb (.val (t 7) h) call fun v_40 h41 =>
arb (.val (t 8) h41) call fun v_42 h43 =>
arb (.val (t 9) h43) call fun v_44 h45 =>
arb (.of (ixsR 1 v_42 v_44) h45) call fun v_46 h47 =>
arb (.of (ld1 h47 v_46) h47) call fun v_48 h49 =>
arb (bslR 1 [(.int .i64 0)] 1 h49 [(0, 1, v_48)]) call fun v_50 h51 =>
arb (appR 1 8 h51 v_40 v_50) call fun v_52 h53 =>
arb (.val v_52 h53) call fun x_54 h55 =>
k39 .normal (upd (upd (upd (upd (upd (upd (upd (upd t 56 v_40) 57 v_42) 58 v_44) 59 v_46) 60 v_48) 61 v_50) 62 v_52) 7 x_54) h55

def L_precentorref9_Way_2 (P : Program) (call : FuncId → List AVal → Heap → Res AVal) (fuel : Nat) (t : T) (h : Heap) : Res (Ex × T) :=
lt okK fun k =>
lt (sqK (J_precentorref9_Way_3 P call fuel k) k) fun k56 =>
arb (.val (t 9) h) call fun v_57 h58 =>
arb (.of (aBin P .geq 3 (.tmp 52) (.const (.int .i64 0)) v_57 (.int .i64 0)) h58) call fun v_59 h60 =>
cb v_59 (
k56 .normal (upd (upd t 52 v_57) 53 v_59) h60) (
k56 (.exit 2) (upd (upd t 52 v_57) 53 v_59) h60)

def J_precentorref9_Way_0 (P : Program) (call : FuncId → List AVal → Heap → Res AVal) (fuel : Nat) (k : Kn (AVal)) (t : T) (h : Heap) : Res (AVal) :=
lt (sqK (J_precentorref9_Way_1 P call fuel k) k) fun k22 =>
arb (.val (t 8) h) call fun v_23 h24 =>
arb (.of (lenL v_23) h24) call fun v_25 h26 =>
arb (.of (aBin P .sub 3 (.tmp 50) (.const (.int .i64 2)) v_25 (.int .i64 2)) h26) call fun v_27 h28 =>
arb (.val v_27 h28) call fun i_29 h30 =>
lt (blkK 2 k22) fun k31 =>
(loopN (L_precentorref9_Way_2 P call fuel) fuel (upd (upd (upd (upd t 49 v_23) 50 v_25) 51 v_27) 9 i_29) h30).bind (lpK k31)

def J_precentorref9_Way_6 (P : Program) (call : FuncId → List AVal → Heap → Res AVal) (fuel : Nat) (k : Kn (Ex × T)) (t : T) (h : Heap) : Res (Ex × T) :=
lt (blkK 1 k) fun k63 =>
arb (.val (t 7) h) call fun v_64 h65 =>
arb (.val (t 7) h65) call fun v_66 h67 =>
arb (.of (lenL v_66) h67) call fun v_68 h69 =>
arb (.of (aBin P .sub 3 (.tmp 41) (.const (.int .i64 1)) v_68 (.int .i64 1)) h69) call fun v_70 h71 =>
arb (.of (slcR 1 v_64 none (some v_70) none) h71) call fun v_72 h73 =>
arb (.val v_72 h73) call fun x_74 h75 =>
arb (.val (t 8) h75) call fun v_76 h77 =>
arb (.val (t 8) h77) call fun v_78 h79 =>
arb (.of (lenL v_78) h79) call fun v_80 h81 =>
arb (.of (aBin P .sub 3 (.tmp 46) (.const (.int .i64 1)) v_80 (.int .i64 1)) h81) call fun v_82 h83 =>
arb (.of (slcR 1 v_76 none (some v_82) none) h83) call fun v_84 h85 =>
arb (.val v_84 h85) call fun y_86 h87 =>
k63 .normal (upd (upd (upd (upd (upd (upd (upd (upd (upd (upd (upd (upd t 39 v_64) 40 v_66) 41 v_68) 42 v_70) 43 v_72) 7 x_74) 44 v_76) 45 v_78) 46 v_80) 47 v_82) 48 v_84) 8 y_86) h87

def L_precentorref9_Way_5 (P : Program) (call : FuncId → List AVal → Heap → Res AVal) (fuel : Nat) (t : T) (h : Heap) : Res (Ex × T) :=
lt okK fun k =>
lt (sqK (J_precentorref9_Way_6 P call fuel k) k) fun k88 =>
obv (.val (t 7) h) fun v_89 =>
obv (.of (lenL v_89) h) fun v_90 =>
obv (.of (aBin P .gtr 3 (.tmp 17) (.const (.int .i64 1)) v_90 (.int .i64 1)) h) fun v_91 =>
obv (.val v_91 h) fun v_92 =>
gd (wantB v_92 true) (fun c => obv (.val (t 8) h) fun v => c v h) h fun v_93 h94 =>
gd (wantB v_92 true) (fun c => obv (.of (lenL v_93) h94) fun v => c v h94) h94 fun v_95 h96 =>
gd (wantB v_92 true) (fun c => obv (.of (aBin P .gtr 3 (.tmp 21) (.const (.int .i64 1)) v_95 (.int .i64 1)) h96) fun v => c v h96) h96 fun v_97 h98 =>
obv (pkR v_92 v_97 (.bool false) h98) fun v_99 =>
obv (.val v_99 h98) fun v_100 =>
gd (wantB v_100 true) (fun c => obv (.val (t 7) h98) fun v => c v h98) h98 fun v_101 h102 =>
gd (wantB v_100 true) (fun c => obv (.val (t 7) h102) fun v => c v h102) h102 fun v_103 h104 =>
gd (wantB v_100 true) (fun c => obv (.of (lenL v_103) h104) fun v => c v h104) h104 fun v_105 h106 =>
gd (wantB v_100 true) (fun c => obv (.of (aBin P .sub 3 (.tmp 27) (.const (.int .i64 2)) v_105 (.int .i64 2)) h106) fun v => c v h106) h106 fun v_107 h108 =>
gd (wantB v_100 true) (fun c => obv (.of (ixsR 1 v_101 v_107) h108) fun v => c v h108) h108 fun v_109 h110 =>
gd (wantB v_100 true) (fun c => obv (.of (ld1 h110 v_109) h110) fun v => c v h110) h110 fun v_111 h112 =>
gd (wantB v_100 true) (fun c => obv (.val (t 8) h112) fun v => c v h112) h112 fun v_113 h114 =>
gd (wantB v_100 true) (fun c => obv (.val (t 8) h114) fun v => c v h114) h114 fun v_115 h116 =>
gd (wantB v_100 true) (fun c => obv (.of (lenL v_115) h116) fun v => c v h116) h116 fun v_117 h118 =>
gd (wantB v_100 true) (fun c => obv (.of (aBin P .sub 3 (.tmp 33) (.const (.int .i64 2)) v_117 (.int .i64 2)) h118) fun v => c v h118) h118 fun v_119 h120 =>
gd (wantB v_100 true) (fun c => obv (.of (ixsR 1 v_113 v_119) h120) fun v => c v h120) h120 fun v_121 h122 =>
gd (wantB v_100 true) (fun c => obv (.of (ld1 h122 v_121) h122) fun v => c v h122) h122 fun v_123 h124 =>
gd (wantB v_100 true) (fun c => obv (.of (aBin P .eql 3 (.tmp 30) (.tmp 36) v_111 v_123) h124) fun v => c v h124) h124 fun v_125 h126 =>
obv (pkR v_100 v_125 (.bool false) h126) fun v_127 =>
cb v_127 (
k88 .normal (upd (upd (upd (upd (upd (upd (upd (upd (upd (upd (upd (upd (upd (upd (upd (upd (upd (upd (upd (upd (upd (upd (upd t 16 v_89) 17 v_90) 18 v_91) 19 v_92) 20 v_93) 21 v_95) 22 v_97) 23 v_99) 24 v_100) 25 v_101) 26 v_103) 27 v_105) 28 v_107) 29 v_109) 30 v_111) 31 v_113) 32 v_115) 33 v_117) 34 v_119) 35 v_121) 36 v_123) 37 v_125) 38 v_127) h126) (
k88 (.exit 0) (upd (upd (upd (upd (upd (upd (upd (upd (upd (upd (upd (upd (upd (upd (upd (upd (upd (upd (upd (upd (upd (upd (upd t 16 v_89) 17 v_90) 18 v_91) 19 v_92) 20 v_93) 21 v_95) 22 v_97) 23 v_99) 24 v_100) 25 v_101) 26 v_103) 27 v_105) 28 v_107) 29 v_109) 30 v_111) 31 v_113) 32 v_115) 33 v_117) 34 v_119) 35 v_121) 36 v_123) 37 v_125) 38 v_127) h126)

def S_precentorref9_Way (P : Program) (call : FuncId → List AVal → Heap → Res AVal) (fuel : Nat) (p_a0 a_a1 b_a2 : AVal) (h : Heap) : Res AVal :=
lt (retK P [.tmp 6]) fun k =>
arb (.val .nils h) call fun v_0 h1 =>
arb (.val p_a0 h1) call fun v_2 h3 =>
arb (.val a_a1 h3) call fun v_4 h5 =>
arb (.call F_precentorref9_up [v_2, v_4] h5) call fun v_6 h7 =>
arb (.val v_6 h7) call fun x_8 h9 =>
arb (.val p_a0 h9) call fun v_10 h11 =>
arb (.val b_a2 h11) call fun v_12 h13 =>
arb (.call F_precentorref9_up [v_10, v_12] h13) call fun v_14 h15 =>
arb (.val v_14 h15) call fun y_16 h17 =>
lt (sqK (J_precentorref9_Way_0 P call fuel k) k) fun k61 =>
lt (blkK 0 k61) fun k62 =>
(loopN (L_precentorref9_Way_5 P call fuel) fuel (upd (upd (upd (upd (upd (upd (upd (upd (upd (enterT [p_a0, a_a1, b_a2]) 6 v_0) 10 v_2) 11 v_4) 12 v_6) 7 x_8) 13 v_10) 14 v_12) 15 v_14) 8 y_16) h17).bind (lpK k62)
theorem E_precentorref9_Way (call : FuncId → List AVal → Heap → Res AVal) (fuel : Nat) (p_a0 a_a1 b_a2 : AVal) (h : Heap) : bodyR Try.prog call fuel Try.f32 [p_a0, a_a1, b_a2] h = S_precentorref9_Way Try.prog call fuel p_a0 a_a1 b_a2 h := by kernel_rfl
theorem R_precentorref9_Way {X : XTab} (p_a0 a_a1 b_a2 : AVal) {h : Heap} {Q : AVal → Heap → Prop} (hx : X F_precentorref9_Way [p_a0, a_a1, b_a2] = none) (q : Tells (fun m => S_precentorref9_Way Try.prog (acallX Try.prog X m) m p_a0 a_a1 b_a2 h) Q) :
    Tells (fun m => acallX Try.prog X m F_precentorref9_Way [p_a0, a_a1, b_a2] h) Q :=
  Tells.later (q.le fun m => (E_precentorref9_Way (acallX Try.prog X m) m p_a0 a_a1 b_a2 h) ▸ acallX_le Try.func32 hx m h)

/-! ### precentor/precentorref9.up -/
def J_precentorref9_up_0 (P : Program) (call : FuncId → List AVal → Heap → Res AVal) (fuel : Nat) (k : Kn (AVal)) (t : T) (h : Heap) : Res (AVal) :=
arb (.val (t 5) h) call fun v_8 h9 =>
arb (.val v_8 h9) call fun v_10 h11 =>
k .ret (upd (upd t 19 v_8) 4 v_10) h11

def J_precentorref9_up_2 (P : Program) (call : FuncId → List AVal → Heap → Res AVal) (fuel : Nat) (k : Kn (Ex × T)) (t : T) (h : Heap) : Res (Ex × T) :=
lt (blkK 1 k) fun k14 =>
arb (.val (t 0) h) call fun v_15 h16 =>
arb (.val (t 1) h16) call fun v_17 h18 =>
arb (.of (aBin P .sub 3 (.tmp 11) (.const (.int .i64 1)) v_17 (.int .i64 1)) h18) call fun v_19 h20 =>
arb (.of (ixsR 1 v_15 v_19) h20) call fun v_21 h22 =>
arb (.of (ld1 h22 v_21) h22) call fun v_23 h24 =>
arb (.val v_23 h24) call fun b_25 h26 =>
arb (.val (t 5) h26) call fun v_27 h28 =>
arb (.val b_25 h28) call fun v_29 h30 =>
arb (bslR 1 [(.int .i64 0)] 1 h30 [(0, 1, v_29)]) call fun v_31 h32 =>
arb (appR 1 8 h32 v_27 v_31) call fun v_33 h34 =>
arb (.val v_33 h34) call fun l_35 h36 =>
k14 .normal (upd (upd (upd (upd (upd (upd (upd (upd (upd (upd (upd t 10 v_15) 11 v_17) 12 v_19) 13 v_21) 14 v_23) 1 b_25) 15 v_27) 16 v_29) 17 v_31) 18 v_33) 5 l_35) h36

def L_precentorref9_up_1 (P : Program) (call : FuncId → List AVal → Heap → Res AVal) (fuel : Nat) (t : T) (h : Heap) : Res (Ex × T) :=
lt okK fun k =>
lt (sqK (J_precentorref9_up_2 P call fuel k) k) fun k37 =>
arb (.val (t 1) h) call fun v_38 h39 =>
arb (.of (aBin P .gtr 3 (.tmp 8) (.const (.int .i64 0)) v_38 (.int .i64 0)) h39) call fun v_40 h41 =>
cb v_40 (
k37 .normal (upd (upd t 8 v_38) 9 v_40) h41) (
k37 (.exit 0) (upd (upd t 8 v_38) 9 v_40) h41)

def S_precentorref9_up (P : Program) (call : FuncId → List AVal → Heap → Res AVal) (fuel : Nat) (p_a0 b_a1 : AVal) (h : Heap) : Res AVal :=
lt (retK P [.tmp 4]) fun k =>
arb (.val .nils h) call fun v_0 h1 =>
arb (.val b_a1 h1) call fun v_2 h3 =>
arb (bslR 1 [(.int .i64 0)] 1 h3 [(0, 1, v_2)]) call fun v_4 h5 =>
arb (.val v_4 h5) call fun l_6 h7 =>
lt (sqK (J_precentorref9_up_0 P call fuel k) k) fun k12 =>
lt (blkK 0 k12) fun k13 =>
(loopN (L_precentorref9_up_1 P call fuel) fuel (upd (upd (upd (upd (enterT [p_a0, b_a1]) 4 v_0) 6 v_2) 7 v_4) 5 l_6) h7).bind (lpK k13)
theorem E_precentorref9_up (call : FuncId → List AVal → Heap → Res AVal) (fuel : Nat) (p_a0 b_a1 : AVal) (h : Heap) : bodyR Try.prog call fuel Try.f34 [p_a0, b_a1] h = S_precentorref9_up Try.prog call fuel p_a0 b_a1 h := by kernel_rfl
theorem R_precentorref9_up {X : XTab} (p_a0 b_a1 : AVal) {h : Heap} {Q : AVal → Heap → Prop} (hx : X F_precentorref9_up [p_a0, b_a1] = none) (q : Tells (fun m => S_precentorref9_up Try.prog (acallX Try.prog X m) m p_a0 b_a1 h) Q) :
    Tells (fun m => acallX Try.prog X m F_precentorref9_up [p_a0, b_a1] h) Q :=
  Tells.later (q.le fun m => (E_precentorref9_up (acallX Try.prog X m) m p_a0 b_a1 h) ▸ acallX_le Try.func34 hx m h)


end Go.Proofs.Ythachecebkmlaaa
