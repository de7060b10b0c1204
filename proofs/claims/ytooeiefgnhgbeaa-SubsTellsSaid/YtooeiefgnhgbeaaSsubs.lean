/-
  Functions of subs in the form of YtooeiefgnhgbeaaABS (printed by a program of ours, gen.lean).
-/
import Derived.Test.YtooeiefgnhgbeaaSIds
set_option linter.unusedVariables false
namespace Go.Proofs.Ytooeiefgnhgbeaa
open Go.Ab
/-! ### precentor/subs.Apply -/
def J_subs_Apply_0 (P : Program) (call : FuncId → List AVal → Heap → Res AVal) (fuel : Nat) (k : Kn (AVal)) (t : T) (h : Heap) : Res (AVal) :=
arb (.val (t 5) h) call fun v_8 h9 =>
arb (.val v_8 h9) call fun v_10 h11 =>
k .ret (upd (upd t 32 v_8) 4 v_10) h11

def J_subs_Apply_3 (P : Program) (call : FuncId → List AVal → Heap → Res AVal) (fuel : Nat) (k : Kn (Ex × T)) (t : T) (h : Heap) : Res (Ex × T) :=
arb (.of (aBin P .add 3 (.tmp 12) (.const (.int .i64 1)) (t 12) (.int .i64 1)) h) call fun v_22 h23 =>
arb (.val v_22 h23) call fun v_24 h25 =>
k .normal (upd (upd t 31 v_22) 12 v_24) h25

def J_subs_Apply_2 (P : Program) (call : FuncId → List AVal → Heap → Res AVal) (fuel : Nat) (k : Kn (Ex × T)) (t : T) (h : Heap) : Res (Ex × T) :=
lt (sqK (J_subs_Apply_3 P call fuel k) k) fun k26 =>
lt (blkK 1 k26) fun k27 =>
arb (.of (ixsR 5 (t 10) (t 12)) h) call fun v_28 h29 =>
arb (.of (ldn 5 h29 v_28) h29) call fun v_30 h31 =>
arb (newR [(.bool false), (.int .i64 0), (.int .i64 0), (.int .i64 0), .nils] h31) call fun c_32 h33 =>
arb (stR 5 h33 c_32 v_30) call fun v_34 h35 =>
arb (.of (fadR 0 c_32) h35) call fun v_36 h37 =>
arb (.of (ld1 h37 v_36) h37) call fun v_38 h39 =>
cb v_38 (
arb (.val (t 5) h39) call fun v_40 h41 =>
arb (.of (fadR 1 c_32) h41) call fun v_42 h43 =>
arb (.of (fadR 0 v_42) h43) call fun v_44 h45 =>
arb (.of (ld1 h45 v_44) h45) call fun v_46 h47 =>
arb (.of (fadR 1 c_32) h47) call fun v_48 h49 =>
arb (.of (fadR 2 v_48) h49) call fun v_50 h51 =>
arb (.of (ld1 h51 v_50) h51) call fun v_52 h53 =>
arb (.call F_subs_gone [v_40, v_46, v_52] h53) call fun v_54 h55 =>
arb (.val v_54 h55) call fun out_56 h57 =>
k27 .normal (upd (upd (upd (upd (upd (upd (upd (upd (upd (upd (upd (upd (upd (upd t 14 v_28) 15 v_30) 7 c_32) 16 v_36) 17 v_38) 18 v_40) 19 v_42) 20 v_44) 21 v_46) 22 v_48) 23 v_50) 24 v_52) 25 v_54) 5 out_56) h57) (
arb (.val (t 5) h39) call fun v_58 h59 =>
arb (.of (fadR 1 c_32) h59) call fun v_60 h61 =>
arb (.of (ldn 4 h61 v_60) h61) call fun v_62 h63 =>
arb (.call F_subs_clone [v_62] h63) call fun v_64 h65 =>
arb (.call F_subs_come [v_58, v_64] h65) call fun v_66 h67 =>
arb (.val v_66 h67) call fun out_68 h69 =>
k27 .normal (upd (upd (upd (upd (upd (upd (upd (upd (upd (upd (upd t 14 v_28) 15 v_30) 7 c_32) 16 v_36) 17 v_38) 26 v_58) 27 v_60) 28 v_62) 29 v_64) 30 v_66) 5 out_68) h69)

def L_subs_Apply_1 (P : Program) (call : FuncId → List AVal → Heap → Res AVal) (fuel : Nat) (t : T) (h : Heap) : Res (Ex × T) :=
lt okK fun k =>
arb (.of (aBin P .lss 3 (.tmp 12) (.tmp 11) (t 12) (t 11)) h) call fun v_20 h21 =>
lt (sqK (J_subs_Apply_2 P call fuel k) k) fun k70 =>
cb v_20 (
k70 .normal (upd t 13 v_20) h21) (
k70 (.exit 0) (upd t 13 v_20) h21)

def S_subs_Apply (P : Program) (call : FuncId → List AVal → Heap → Res AVal) (fuel : Nat) (l_a0 ch_a1 : AVal) (h : Heap) : Res AVal :=
lt (retK P [.tmp 4]) fun k =>
arb (.val .nils h) call fun v_0 h1 =>
arb (.val l_a0 h1) call fun v_2 h3 =>
arb (.call F_subs_copies [v_2] h3) call fun v_4 h5 =>
arb (.val v_4 h5) call fun out_6 h7 =>
lt (sqK (J_subs_Apply_0 P call fuel k) k) fun k12 =>
arb (.val ch_a1 h7) call fun v_13 h14 =>
arb (.of (lenL v_13) h14) call fun v_15 h16 =>
arb (.val (.int .i64 0) h16) call fun v_17 h18 =>
lt (blkK 0 k12) fun k19 =>
(loopN (L_subs_Apply_1 P call fuel) fuel (upd (upd (upd (upd (upd (upd (upd (enterT [l_a0, ch_a1]) 4 v_0) 8 v_2) 9 v_4) 5 out_6) 10 v_13) 11 v_15) 12 v_17) h18).bind (lpK k19)
theorem E_subs_Apply (call : FuncId → List AVal → Heap → Res AVal) (fuel : Nat) (l_a0 ch_a1 : AVal) (h : Heap) : bodyR Try.prog call fuel Try.f8 [l_a0, ch_a1] h = S_subs_Apply Try.prog call fuel l_a0 ch_a1 h := by kernel_rfl
theorem R_subs_Apply {X : XTab} (l_a0 ch_a1 : AVal) {h : Heap} {Q : AVal → Heap → Prop} (hx : X F_subs_Apply [l_a0, ch_a1] = none) (q : Tells (fun m => S_subs_Apply Try.prog (acallX Try.prog X m) m l_a0 ch_a1 h) Q) :
    Tells (fun m => acallX Try.prog X m F_subs_Apply [l_a0, ch_a1] h) Q :=
  Tells.later (q.le fun m => (E_subs_Apply (acallX Try.prog X m) m l_a0 ch_a1 h) ▸ acallX_le Try.func8 hx m h)

/-! ### precentor/subs.Brokers -/
def J_subs_Brokers_0 (P : Program) (call : FuncId → List AVal → Heap → Res AVal) (fuel : Nat) (k : Kn (AVal)) (t : T) (h : Heap) : Res (AVal) :=
arb (.val (t 5) h) call fun v_4 h5 =>
arb (.val v_4 h5) call fun v_6 h7 =>
k .ret (upd (upd t 32 v_4) 4 v_6) h7

def J_subs_Brokers_3 (P : Program) (call : FuncId → List AVal → Heap → Res AVal) (fuel : Nat) (k : Kn (Ex × T)) (t : T) (h : Heap) : Res (Ex × T) :=
arb (.of (aBin P .add 3 (.tmp 12) (.const (.int .i64 1)) (t 12) (.int .i64 1)) h) call fun v_18 h19 =>
arb (.val v_18 h19) call fun v_20 h21 =>
k .normal (upd (upd t 31 v_18) 12 v_20) h21

def J_subs_Brokers_6 (P : Program) (call : FuncId → List AVal → Heap → Res AVal) (fuel : Nat) (k : Kn (Ex × T)) (t : T) (h : Heap) : Res (Ex × T) :=
arb (.of (aBin P .add 3 (.tmp 18) (.const (.int .i64 1)) (t 18) (.int .i64 1)) h) call fun v_41 h42 =>
arb (.val v_41 h42) call fun v_43 h44 =>
k .normal (upd (upd t 30 v_41) 18 v_43) h44

def J_subs_Brokers_5 (P : Program) (call : FuncId → List AVal → Heap → Res AVal) (fuel : Nat) (k : Kn (Ex × T)) (t : T) (h : Heap) : Res (Ex × T) :=
lt (sqK (J_subs_Brokers_6 P call fuel k) k) fun k45 =>
lt (blkK 3 k45) fun k46 =>
arb (.of (ixsR 1 (t 16) (t 18)) h) call fun v_47 h48 =>
arb (.of (ld1 h48 v_47) h48) call fun v_49 h50 =>
arb (.val v_49 h50) call fun c_51 h52 =>
arb (.of (fadR 0 (t 7)) h52) call fun v_53 h54 =>
arb (.of (ld1 h54 v_53) h54) call fun v_55 h56 =>
arb (.val c_51 h56) call fun v_57 h58 =>
arb (.of (aBin P .eql 3 (.tmp 23) (.tmp 24) v_55 v_57) h58) call fun v_59 h60 =>
cb v_59 (
arb (.val (t 5) h60) call fun v_61 h62 =>
arb (.of (fadR 1 (t 7)) h62) call fun v_63 h64 =>
arb (.of (ld1 h64 v_63) h64) call fun v_65 h66 =>
arb (.call F_subs_lay [v_61, v_65] h66) call fun v_67 h68 =>
arb (.val v_67 h68) call fun out_69 h70 =>
k46 .normal (upd (upd (upd (upd (upd (upd (upd (upd (upd (upd (upd (upd t 20 v_47) 21 v_49) 9 c_51) 22 v_53) 23 v_55) 24 v_57) 25 v_59) 26 v_61) 27 v_63) 28 v_65) 29 v_67) 5 out_69) h70) (
k46 .normal (upd (upd (upd (upd (upd (upd (upd t 20 v_47) 21 v_49) 9 c_51) 22 v_53) 23 v_55) 24 v_57) 25 v_59) h60)

def L_subs_Brokers_4 (P : Program) (call : FuncId → List AVal → Heap → Res AVal) (fuel : Nat) (t : T) (h : Heap) : Res (Ex × T) :=
lt okK fun k =>
arb (.of (aBin P .lss 3 (.tmp 18) (.tmp 17) (t 18) (t 17)) h) call fun v_39 h40 =>
lt (sqK (J_subs_Brokers_5 P call fuel k) k) fun k71 =>
cb v_39 (
k71 .normal (upd t 19 v_39) h40) (
k71 (.exit 2) (upd t 19 v_39) h40)

def J_subs_Brokers_2 (P : Program) (call : FuncId → List AVal → Heap → Res AVal) (fuel : Nat) (k : Kn (Ex × T)) (t : T) (h : Heap) : Res (Ex × T) :=
lt (sqK (J_subs_Brokers_3 P call fuel k) k) fun k22 =>
lt (blkK 1 k22) fun k23 =>
arb (.of (ixsR 4 (t 10) (t 12)) h) call fun v_24 h25 =>
arb (.of (ldn 4 h25 v_24) h25) call fun v_26 h27 =>
arb (newR [(.int .i64 0), (.int .i64 0), (.int .i64 0), .nils] h27) call fun s_28 h29 =>
arb (stR 4 h29 s_28 v_26) call fun v_30 h31 =>
arb (.val (t 1) h31) call fun v_32 h33 =>
arb (.of (lenL v_32) h33) call fun v_34 h35 =>
arb (.val (.int .i64 0) h35) call fun v_36 h37 =>
lt (blkK 2 k23) fun k38 =>
(loopN (L_subs_Brokers_4 P call fuel) fuel (upd (upd (upd (upd (upd (upd t 14 v_24) 15 v_26) 7 s_28) 16 v_32) 17 v_34) 18 v_36) h37).bind (lpK k38)

def L_subs_Brokers_1 (P : Program) (call : FuncId → List AVal → Heap → Res AVal) (fuel : Nat) (t : T) (h : Heap) : Res (Ex × T) :=
lt okK fun k =>
arb (.of (aBin P .lss 3 (.tmp 12) (.tmp 11) (t 12) (t 11)) h) call fun v_16 h17 =>
lt (sqK (J_subs_Brokers_2 P call fuel k) k) fun k72 =>
cb v_16 (
k72 .normal (upd t 13 v_16) h17) (
k72 (.exit 0) (upd t 13 v_16) h17)

def S_subs_Brokers (P : Program) (call : FuncId → List AVal → Heap → Res AVal) (fuel : Nat) (l_a0 clients_a1 : AVal) (h : Heap) : Res AVal :=
lt (retK P [.tmp 4]) fun k =>
arb (.val .nils h) call fun v_0 h1 =>
arb (.val .nils h1) call fun out_2 h3 =>
lt (sqK (J_subs_Brokers_0 P call fuel k) k) fun k8 =>
arb (.val l_a0 h3) call fun v_9 h10 =>
arb (.of (lenL v_9) h10) call fun v_11 h12 =>
arb (.val (.int .i64 0) h12) call fun v_13 h14 =>
lt (blkK 0 k8) fun k15 =>
(loopN (L_subs_Brokers_1 P call fuel) fuel (upd (upd (upd (upd (upd (enterT [l_a0, clients_a1]) 4 v_0) 5 out_2) 10 v_9) 11 v_11) 12 v_13) h14).bind (lpK k15)
theorem E_subs_Brokers (call : FuncId → List AVal → Heap → Res AVal) (fuel : Nat) (l_a0 clients_a1 : AVal) (h : Heap) : bodyR Try.prog call fuel Try.f9 [l_a0, clients_a1] h = S_subs_Brokers Try.prog call fuel l_a0 clients_a1 h := by kernel_rfl
theorem R_subs_Brokers {X : XTab} (l_a0 clients_a1 : AVal) {h : Heap} {Q : AVal → Heap → Prop} (hx : X F_subs_Brokers [l_a0, clients_a1] = none) (q : Tells (fun m => S_subs_Brokers Try.prog (acallX Try.prog X m) m l_a0 clients_a1 h) Q) :
    Tells (fun m => acallX Try.prog X m F_subs_Brokers [l_a0, clients_a1] h) Q :=
  Tells.later (q.le fun m => (E_subs_Brokers (acallX Try.prog X m) m l_a0 clients_a1 h) ▸ acallX_le Try.func9 hx m h)

/-! ### precentor/subs.Has -/
def J_subs_Has_0 (P : Program) (call : FuncId → List AVal → Heap → Res AVal) (fuel : Nat) (k : Kn (AVal)) (t : T) (h : Heap) : Res (AVal) :=
arb (.val (.bool false) h) call fun v_2 h3 =>
k .ret (upd t 6 v_2) h3

def J_subs_Has_3 (P : Program) (call : FuncId → List AVal → Heap → Res AVal) (fuel : Nat) (k : Kn (Ex × T)) (t : T) (h : Heap) : Res (Ex × T) :=
arb (.of (aBin P .add 3 (.tmp 11) (.const (.int .i64 1)) (t 11) (.int .i64 1)) h) call fun v_14 h15 =>
arb (.val v_14 h15) call fun v_16 h17 =>
k .normal (upd (upd t 25 v_14) 11 v_16) h17

def J_subs_Has_2 (P : Program) (call : FuncId → List AVal → Heap → Res AVal) (fuel : Nat) (k : Kn (Ex × T)) (t : T) (h : Heap) : Res (Ex × T) :=
lt (sqK (J_subs_Has_3 P call fuel k) k) fun k18 =>
lt (blkK 1 k18) fun k19 =>
arb (.of (ixsR 4 (t 9) (t 11)) h) call fun v_20 h21 =>
arb (.of (ldn 4 h21 v_20) h21) call fun v_22 h23 =>
arb (newR [(.int .i64 0), (.int .i64 0), (.int .i64 0), .nils] h23) call fun s_24 h25 =>
arb (stR 4 h25 s_24 v_22) call fun v_26 h27 =>
arb (.of (fadR 0 s_24) h27) call fun v_28 h29 =>
arb (.of (ld1 h29 v_28) h29) call fun v_30 h31 =>
arb (.val (t 1) h31) call fun v_32 h33 =>
arb (.of (aBin P .eql 3 (.tmp 16) (.tmp 17) v_30 v_32) h33) call fun v_34 h35 =>
arb (.val v_34 h35) call fun v_36 h37 =>
gd (wantB v_36 true) (fun c => arb (.of (fadR 2 s_24) h37) call c) h37 fun v_38 h39 =>
gd (wantB v_36 true) (fun c => arb (.of (ld1 h39 v_38) h39) call c) h39 fun v_40 h41 =>
gd (wantB v_36 true) (fun c => arb (.val (t 2) h41) call c) h41 fun v_42 h43 =>
gd (wantB v_36 true) (fun c => arb (.of (aBin P .eql 3 (.tmp 21) (.tmp 22) v_40 v_42) h43) call c) h43 fun v_44 h45 =>
arb (pkR v_36 v_44 (.bool false) h45) call fun v_46 h47 =>
cb v_46 (
arb (.val (.bool true) h47) call fun v_48 h49 =>
k19 .ret (upd (upd (upd (upd (upd (upd (upd (upd (upd (upd (upd (upd (upd (upd t 13 v_20) 14 v_22) 8 s_24) 15 v_28) 16 v_30) 17 v_32) 18 v_34) 19 v_36) 20 v_38) 21 v_40) 22 v_42) 23 v_44) 24 v_46) 6 v_48) h49) (
k19 .normal (upd (upd (upd (upd (upd (upd (upd (upd (upd (upd (upd (upd (upd t 13 v_20) 14 v_22) 8 s_24) 15 v_28) 16 v_30) 17 v_32) 18 v_34) 19 v_36) 20 v_38) 21 v_40) 22 v_42) 23 v_44) 24 v_46) h47)

def L_subs_Has_1 (P : Program) (call : FuncId → List AVal → Heap → Res AVal) (fuel : Nat) (t : T) (h : Heap) : Res (Ex × T) :=
lt okK fun k =>
arb (.of (aBin P .lss 3 (.tmp 11) (.tmp 10) (t 11) (t 10)) h) call fun v_12 h13 =>
lt (sqK (J_subs_Has_2 P call fuel k) k) fun k50 =>
cb v_12 (
k50 .normal (upd t 12 v_12) h13) (
k50 (.exit 0) (upd t 12 v_12) h13)

def S_subs_Has (P : Program) (call : FuncId → List AVal → Heap → Res AVal) (fuel : Nat) (l_a0 client_a1 num_a2 : AVal) (h : Heap) : Res AVal :=
lt (retK P [.tmp 6]) fun k =>
arb (.val (.bool false) h) call fun v_0 h1 =>
lt (sqK (J_subs_Has_0 P call fuel k) k) fun k4 =>
arb (.val l_a0 h1) call fun v_5 h6 =>
arb (.of (lenL v_5) h6) call fun v_7 h8 =>
arb (.val (.int .i64 0) h8) call fun v_9 h10 =>
lt (blkK 0 k4) fun k11 =>
(loopN (L_subs_Has_1 P call fuel) fuel (upd (upd (upd (upd (enterT [l_a0, client_a1, num_a2]) 6 v_0) 9 v_5) 10 v_7) 11 v_9) h10).bind (lpK k11)
theorem E_subs_Has (call : FuncId → List AVal → Heap → Res AVal) (fuel : Nat) (l_a0 client_a1 num_a2 : AVal) (h : Heap) : bodyR Try.prog call fuel Try.f10 [l_a0, client_a1, num_a2] h = S_subs_Has Try.prog call fuel l_a0 client_a1 num_a2 h := by kernel_rfl
theorem R_subs_Has {X : XTab} (l_a0 client_a1 num_a2 : AVal) {h : Heap} {Q : AVal → Heap → Prop} (hx : X F_subs_Has [l_a0, client_a1, num_a2] = none) (q : Tells (fun m => S_subs_Has Try.prog (acallX Try.prog X m) m l_a0 client_a1 num_a2 h) Q) :
    Tells (fun m => acallX Try.prog X m F_subs_Has [l_a0, client_a1, num_a2] h) Q :=
  Tells.later (q.le fun m => (E_subs_Has (acallX Try.prog X m) m l_a0 client_a1 num_a2 h) ▸ acallX_le Try.func10 hx m h)

/-! ### precentor/subs.Right -/
def J_subs_Right_0 (P : Program) (call : FuncId → List AVal → Heap → Res AVal) (fuel : Nat) (k : Kn (AVal)) (t : T) (h : Heap) : Res (AVal) :=
arb (.val (.bool true) h) call fun v_4 h5 =>
k .ret (upd t 2 v_4) h5

def J_subs_Right_3 (P : Program) (call : FuncId → List AVal → Heap → Res AVal) (fuel : Nat) (k : Kn (Ex × T)) (t : T) (h : Heap) : Res (Ex × T) :=
arb (.of (aBin P .add 3 (.tmp 8) (.const (.int .i64 1)) (t 8) (.int .i64 1)) h) call fun v_16 h17 =>
arb (.val v_16 h17) call fun v_18 h19 =>
k .normal (upd (upd t 66 v_16) 8 v_18) h19

def J_subs_Right_5 (P : Program) (call : FuncId → List AVal → Heap → Res AVal) (fuel : Nat) (k : Kn (Ex × T)) (t : T) (h : Heap) : Res (Ex × T) :=
arb (.val (t 3) h) call fun v_34 h35 =>
arb (.of (aBin P .add 3 (.tmp 29) (.const (.int .i64 1)) v_34 (.int .i64 1)) h35) call fun v_36 h37 =>
arb (.val v_36 h37) call fun many_38 h39 =>
obv (.val (t 0) h39) fun v_40 =>
obv (.val (t 4) h39) fun v_41 =>
obv (.of (aBin P .sub 3 (.tmp 32) (.const (.int .i64 1)) v_41 (.int .i64 1)) h39) fun v_42 =>
obv (.of (ixsR 4 v_40 v_42) h39) fun v_43 =>
obv (.of (fadR 0 v_43) h39) fun v_44 =>
obv (.of (ld1 h39 v_44) h39) fun v_45 =>
obv (.of (fadR 0 (t 5)) h39) fun v_46 =>
obv (.of (ld1 h39 v_46) h39) fun v_47 =>
obv (.of (aBin P .gtr 3 (.tmp 36) (.tmp 38) v_45 v_47) h39) fun v_48 =>
obv (.val v_48 h39) fun v_49 =>
gd (wantB v_49 false) (fun c => obv (.val (t 0) h39) fun v => c v h39) h39 fun v_50 h51 =>
gd (wantB v_49 false) (fun c => obv (.val (t 4) h51) fun v => c v h51) h51 fun v_52 h53 =>
gd (wantB v_49 false) (fun c => obv (.of (aBin P .sub 3 (.tmp 42) (.const (.int .i64 1)) v_52 (.int .i64 1)) h53) fun v => c v h53) h53 fun v_54 h55 =>
gd (wantB v_49 false) (fun c => obv (.of (ixsR 4 v_50 v_54) h55) fun v => c v h55) h55 fun v_56 h57 =>
gd (wantB v_49 false) (fun c => obv (.of (fadR 2 v_56) h57) fun v => c v h57) h57 fun v_58 h59 =>
gd (wantB v_49 false) (fun c => obv (.of (ld1 h59 v_58) h59) fun v => c v h59) h59 fun v_60 h61 =>
gd (wantB v_49 false) (fun c => obv (.of (fadR 2 (t 5)) h61) fun v => c v h61) h61 fun v_62 h63 =>
gd (wantB v_49 false) (fun c => obv (.of (ld1 h63 v_62) h63) fun v => c v h63) h63 fun v_64 h65 =>
gd (wantB v_49 false) (fun c => obv (.of (aBin P .geq 3 (.tmp 46) (.tmp 48) v_60 v_64) h65) fun v => c v h65) h65 fun v_66 h67 =>
obv (pkR v_49 (.bool true) v_66 h67) fun v_68 =>
obv (.val v_68 h67) fun v_69 =>
gd (wantB v_69 false) (fun c => obv (.val (t 0) h67) fun v => c v h67) h67 fun v_70 h71 =>
gd (wantB v_69 false) (fun c => obv (.val (t 4) h71) fun v => c v h71) h71 fun v_72 h73 =>
gd (wantB v_69 false) (fun c => obv (.of (aBin P .sub 3 (.tmp 53) (.const (.int .i64 1)) v_72 (.int .i64 1)) h73) fun v => c v h73) h73 fun v_74 h75 =>
gd (wantB v_69 false) (fun c => obv (.of (ixsR 4 v_70 v_74) h75) fun v => c v h75) h75 fun v_76 h77 =>
gd (wantB v_69 false) (fun c => obv (.of (fadR 1 v_76) h77) fun v => c v h77) h77 fun v_78 h79 =>
gd (wantB v_69 false) (fun c => obv (.of (ld1 h79 v_78) h79) fun v => c v h79) h79 fun v_80 h81 =>
gd (wantB v_69 false) (fun c => obv (.of (fadR 1 (t 5)) h81) fun v => c v h81) h81 fun v_82 h83 =>
gd (wantB v_69 false) (fun c => obv (.of (ld1 h83 v_82) h83) fun v => c v h83) h83 fun v_84 h85 =>
gd (wantB v_69 false) (fun c => obv (.of (aBin P .neq 3 (.tmp 57) (.tmp 59) v_80 v_84) h85) fun v => c v h85) h85 fun v_86 h87 =>
obv (pkR v_69 (.bool true) v_86 h87) fun v_88 =>
obv (.val v_88 h87) fun v_89 =>
gd (wantB v_89 false) (fun c => obv (.val many_38 h87) fun v => c v h87) h87 fun v_90 h91 =>
gd (wantB v_89 false) (fun c => obv (.of (aBin P .gtr 3 (.tmp 63) (.const (.int .i64 3)) v_90 (.int .i64 3)) h91) fun v => c v h91) h91 fun v_92 h93 =>
obv (pkR v_89 (.bool true) v_92 h93) fun v_94 =>
cb v_94 (
arb (.val (.bool false) h93) call fun v_95 h96 =>
k .ret (upd (upd (upd (upd (upd (upd (upd (upd (upd (upd (upd (upd (upd (upd (upd (upd (upd (upd (upd (upd (upd (upd (upd (upd (upd (upd (upd (upd (upd (upd (upd (upd (upd (upd (upd (upd (upd (upd (upd t 29 v_34) 30 v_36) 3 many_38) 31 v_40) 32 v_41) 33 v_42) 34 v_43) 35 v_44) 36 v_45) 37 v_46) 38 v_47) 39 v_48) 40 v_49) 41 v_50) 42 v_52) 43 v_54) 44 v_56) 45 v_58) 46 v_60) 47 v_62) 48 v_64) 49 v_66) 50 v_68) 51 v_69) 52 v_70) 53 v_72) 54 v_74) 55 v_76) 56 v_78) 57 v_80) 58 v_82) 59 v_84) 60 v_86) 61 v_88) 62 v_89) 63 v_90) 64 v_92) 65 v_94) 2 v_95) h96) (
k .normal (upd (upd (upd (upd (upd (upd (upd (upd (upd (upd (upd (upd (upd (upd (upd (upd (upd (upd (upd (upd (upd (upd (upd (upd (upd (upd (upd (upd (upd (upd (upd (upd (upd (upd (upd (upd (upd (upd t 29 v_34) 30 v_36) 3 many_38) 31 v_40) 32 v_41) 33 v_42) 34 v_43) 35 v_44) 36 v_45) 37 v_46) 38 v_47) 39 v_48) 40 v_49) 41 v_50) 42 v_52) 43 v_54) 44 v_56) 45 v_58) 46 v_60) 47 v_62) 48 v_64) 49 v_66) 50 v_68) 51 v_69) 52 v_70) 53 v_72) 54 v_74) 55 v_76) 56 v_78) 57 v_80) 58 v_82) 59 v_84) 60 v_86) 61 v_88) 62 v_89) 63 v_90) 64 v_92) 65 v_94) h93)

def J_subs_Right_4 (P : Program) (call : FuncId → List AVal → Heap → Res AVal) (fuel : Nat) (k : Kn (Ex × T)) (t : T) (h : Heap) : Res (Ex × T) :=
lt (sqK (J_subs_Right_5 P call fuel k) k) fun k97 =>
obv (.val (t 4) h) fun v_98 =>
obv (.of (aBin P .eql 3 (.tmp 16) (.const (.int .i64 0)) v_98 (.int .i64 0)) h) fun v_99 =>
obv (.val v_99 h) fun v_100 =>
gd (wantB v_100 false) (fun c => obv (.val (t 0) h) fun v => c v h) h fun v_101 h102 =>
gd (wantB v_100 false) (fun c => obv (.val (t 4) h102) fun v => c v h102) h102 fun v_103 h104 =>
gd (wantB v_100 false) (fun c => obv (.of (aBin P .sub 3 (.tmp 20) (.const (.int .i64 1)) v_103 (.int .i64 1)) h104) fun v => c v h104) h104 fun v_105 h106 =>
gd (wantB v_100 false) (fun c => obv (.of (ixsR 4 v_101 v_105) h106) fun v => c v h106) h106 fun v_107 h108 =>
gd (wantB v_100 false) (fun c => obv (.of (fadR 0 v_107) h108) fun v => c v h108) h108 fun v_109 h110 =>
gd (wantB v_100 false) (fun c => obv (.of (ld1 h110 v_109) h110) fun v => c v h110) h110 fun v_111 h112 =>
gd (wantB v_100 false) (fun c => obv (.of (fadR 0 (t 5)) h112) fun v => c v h112) h112 fun v_113 h114 =>
gd (wantB v_100 false) (fun c => obv (.of (ld1 h114 v_113) h114) fun v => c v h114) h114 fun v_115 h116 =>
gd (wantB v_100 false) (fun c => obv (.of (aBin P .lss 3 (.tmp 24) (.tmp 26) v_111 v_115) h116) fun v => c v h116) h116 fun v_117 h118 =>
obv (pkR v_100 (.bool true) v_117 h118) fun v_119 =>
cb v_119 (
arb (.val (.int .i64 1) h118) call fun many_120 h121 =>
k97 (.exit 1) (upd (upd (upd (upd (upd (upd (upd (upd (upd (upd (upd (upd (upd (upd t 16 v_98) 17 v_99) 18 v_100) 19 v_101) 20 v_103) 21 v_105) 22 v_107) 23 v_109) 24 v_111) 25 v_113) 26 v_115) 27 v_117) 28 v_119) 3 many_120) h121) (
k97 .normal (upd (upd (upd (upd (upd (upd (upd (upd (upd (upd (upd (upd (upd t 16 v_98) 17 v_99) 18 v_100) 19 v_101) 20 v_103) 21 v_105) 22 v_107) 23 v_109) 24 v_111) 25 v_113) 26 v_115) 27 v_117) 28 v_119) h118)

def J_subs_Right_2 (P : Program) (call : FuncId → List AVal → Heap → Res AVal) (fuel : Nat) (k : Kn (Ex × T)) (t : T) (h : Heap) : Res (Ex × T) :=
lt (sqK (J_subs_Right_3 P call fuel k) k) fun k20 =>
lt (blkK 1 k20) fun k21 =>
arb (.val (t 8) h) call fun v_22 h23 =>
arb (.of (ixsR 4 (t 6) (t 8)) h23) call fun v_24 h25 =>
arb (.of (ldn 4 h25 v_24) h25) call fun v_26 h27 =>
arb (newR [(.int .i64 0), (.int .i64 0), (.int .i64 0), .nils] h27) call fun s_28 h29 =>
arb (.val v_22 h29) call fun i_30 h31 =>
arb (stR 4 h31 s_28 v_26) call fun v_32 h33 =>
lt (sqK (J_subs_Right_4 P call fuel k21) k21) fun k122 =>
arb (.of (ldn 4 h33 s_28) h33) call fun v_123 h124 =>
arb (.call F_subs_may [v_123] h124) call fun v_125 h126 =>
arb (.of (aUn P .not v_125) h126) call fun v_127 h128 =>
cb v_127 (
arb (.val (.bool false) h128) call fun v_129 h130 =>
k122 .ret (upd (upd (upd (upd (upd (upd (upd (upd (upd t 10 v_22) 11 v_24) 12 v_26) 5 s_28) 4 i_30) 13 v_123) 14 v_125) 15 v_127) 2 v_129) h130) (
k122 .normal (upd (upd (upd (upd (upd (upd (upd (upd t 10 v_22) 11 v_24) 12 v_26) 5 s_28) 4 i_30) 13 v_123) 14 v_125) 15 v_127) h128)

def L_subs_Right_1 (P : Program) (call : FuncId → List AVal → Heap → Res AVal) (fuel : Nat) (t : T) (h : Heap) : Res (Ex × T) :=
lt okK fun k =>
arb (.of (aBin P .lss 3 (.tmp 8) (.tmp 7) (t 8) (t 7)) h) call fun v_14 h15 =>
lt (sqK (J_subs_Right_2 P call fuel k) k) fun k131 =>
cb v_14 (
k131 .normal (upd t 9 v_14) h15) (
k131 (.exit 0) (upd t 9 v_14) h15)

def S_subs_Right (P : Program) (call : FuncId → List AVal → Heap → Res AVal) (fuel : Nat) (l_a0 : AVal) (h : Heap) : Res AVal :=
lt (retK P [.tmp 2]) fun k =>
arb (.val (.bool false) h) call fun v_0 h1 =>
arb (.val (.int .i64 0) h1) call fun many_2 h3 =>
lt (sqK (J_subs_Right_0 P call fuel k) k) fun k6 =>
arb (.val l_a0 h3) call fun v_7 h8 =>
arb (.of (lenL v_7) h8) call fun v_9 h10 =>
arb (.val (.int .i64 0) h10) call fun v_11 h12 =>
lt (blkK 0 k6) fun k13 =>
(loopN (L_subs_Right_1 P call fuel) fuel (upd (upd (upd (upd (upd (enterT [l_a0]) 2 v_0) 3 many_2) 6 v_7) 7 v_9) 8 v_11) h12).bind (lpK k13)
theorem E_subs_Right (call : FuncId → List AVal → Heap → Res AVal) (fuel : Nat) (l_a0 : AVal) (h : Heap) : bodyR Try.prog call fuel Try.f11 [l_a0] h = S_subs_Right Try.prog call fuel l_a0 h := by kernel_rfl
theorem R_subs_Right {X : XTab} (l_a0 : AVal) {h : Heap} {Q : AVal → Heap → Prop} (hx : X F_subs_Right [l_a0] = none) (q : Tells (fun m => S_subs_Right Try.prog (acallX Try.prog X m) m l_a0 h) Q) :
    Tells (fun m => acallX Try.prog X m F_subs_Right [l_a0] h) Q :=
  Tells.later (q.le fun m => (E_subs_Right (acallX Try.prog X m) m l_a0 h) ▸ acallX_le Try.func11 hx m h)

/-! ### precentor/subs.Of -/
def J_subs_Of_0 (P : Program) (call : FuncId → List AVal → Heap → Res AVal) (fuel : Nat) (k : Kn (AVal)) (t : T) (h : Heap) : Res (AVal) :=
arb (.val (t 5) h) call fun v_4 h5 =>
arb (.val v_4 h5) call fun v_6 h7 =>
k .ret (upd (upd t 24 v_4) 4 v_6) h7

def J_subs_Of_3 (P : Program) (call : FuncId → List AVal → Heap → Res AVal) (fuel : Nat) (k : Kn (Ex × T)) (t : T) (h : Heap) : Res (Ex × T) :=
arb (.of (aBin P .add 3 (.tmp 10) (.const (.int .i64 1)) (t 10) (.int .i64 1)) h) call fun v_18 h19 =>
arb (.val v_18 h19) call fun v_20 h21 =>
k .normal (upd (upd t 23 v_18) 10 v_20) h21

def J_subs_Of_2 (P : Program) (call : FuncId → List AVal → Heap → Res AVal) (fuel : Nat) (k : Kn (Ex × T)) (t : T) (h : Heap) : Res (Ex × T) :=
lt (sqK (J_subs_Of_3 P call fuel k) k) fun k22 =>
lt (blkK 1 k22) fun k23 =>
arb (.of (ixsR 4 (t 8) (t 10)) h) call fun v_24 h25 =>
arb (.of (ldn 4 h25 v_24) h25) call fun v_26 h27 =>
arb (newR [(.int .i64 0), (.int .i64 0), (.int .i64 0), .nils] h27) call fun s_28 h29 =>
arb (stR 4 h29 s_28 v_26) call fun v_30 h31 =>
arb (.of (fadR 0 s_28) h31) call fun v_32 h33 =>
arb (.of (ld1 h33 v_32) h33) call fun v_34 h35 =>
arb (.val (t 1) h35) call fun v_36 h37 =>
arb (.of (aBin P .eql 3 (.tmp 15) (.tmp 16) v_34 v_36) h37) call fun v_38 h39 =>
cb v_38 (
arb (.val (t 5) h39) call fun v_40 h41 =>
arb (.of (ldn 4 h41 s_28) h41) call fun v_42 h43 =>
arb (.call F_subs_clone [v_42] h43) call fun v_44 h45 =>
arb (bslR 4 [(.int .i64 0), (.int .i64 0), (.int .i64 0), .nils] 1 h45 [(0, 4, v_44)]) call fun v_46 h47 =>
arb (appR 4 48 h47 v_40 v_46) call fun v_48 h49 =>
arb (.val v_48 h49) call fun out_50 h51 =>
k23 .normal (upd (upd (upd (upd (upd (upd (upd (upd (upd (upd (upd (upd (upd t 12 v_24) 13 v_26) 7 s_28) 14 v_32) 15 v_34) 16 v_36) 17 v_38) 18 v_40) 19 v_42) 20 v_44) 21 v_46) 22 v_48) 5 out_50) h51) (
k23 .normal (upd (upd (upd (upd (upd (upd (upd t 12 v_24) 13 v_26) 7 s_28) 14 v_32) 15 v_34) 16 v_36) 17 v_38) h39)

def L_subs_Of_1 (P : Program) (call : FuncId → List AVal → Heap → Res AVal) (fuel : Nat) (t : T) (h : Heap) : Res (Ex × T) :=
lt okK fun k =>
arb (.of (aBin P .lss 3 (.tmp 10) (.tmp 9) (t 10) (t 9)) h) call fun v_16 h17 =>
lt (sqK (J_subs_Of_2 P call fuel k) k) fun k52 =>
cb v_16 (
k52 .normal (upd t 11 v_16) h17) (
k52 (.exit 0) (upd t 11 v_16) h17)

def S_subs_Of (P : Program) (call : FuncId → List AVal → Heap → Res AVal) (fuel : Nat) (l_a0 client_a1 : AVal) (h : Heap) : Res AVal :=
lt (retK P [.tmp 4]) fun k =>
arb (.val .nils h) call fun v_0 h1 =>
arb (.val .nils h1) call fun out_2 h3 =>
lt (sqK (J_subs_Of_0 P call fuel k) k) fun k8 =>
arb (.val l_a0 h3) call fun v_9 h10 =>
arb (.of (lenL v_9) h10) call fun v_11 h12 =>
arb (.val (.int .i64 0) h12) call fun v_13 h14 =>
lt (blkK 0 k8) fun k15 =>
(loopN (L_subs_Of_1 P call fuel) fuel (upd (upd (upd (upd (upd (enterT [l_a0, client_a1]) 4 v_0) 5 out_2) 8 v_9) 9 v_11) 10 v_13) h14).bind (lpK k15)
theorem E_subs_Of (call : FuncId → List AVal → Heap → Res AVal) (fuel : Nat) (l_a0 client_a1 : AVal) (h : Heap) : bodyR Try.prog call fuel Try.f12 [l_a0, client_a1] h = S_subs_Of Try.prog call fuel l_a0 client_a1 h := by kernel_rfl
theorem R_subs_Of {X : XTab} (l_a0 client_a1 : AVal) {h : Heap} {Q : AVal → Heap → Prop} (hx : X F_subs_Of [l_a0, client_a1] = none) (q : Tells (fun m => S_subs_Of Try.prog (acallX Try.prog X m) m l_a0 client_a1 h) Q) :
    Tells (fun m => acallX Try.prog X m F_subs_Of [l_a0, client_a1] h) Q :=
  Tells.later (q.le fun m => (E_subs_Of (acallX Try.prog X m) m l_a0 client_a1 h) ▸ acallX_le Try.func12 hx m h)

/-! ### precentor/subs.Same -/
def J_subs_Same_1 (P : Program) (call : FuncId → List AVal → Heap → Res AVal) (fuel : Nat) (k : Kn (AVal)) (t : T) (h : Heap) : Res (AVal) :=
arb (.val (.bool true) h) call fun v_2 h3 =>
k .ret (upd t 4 v_2) h3

def J_subs_Same_4 (P : Program) (call : FuncId → List AVal → Heap → Res AVal) (fuel : Nat) (k : Kn (Ex × T)) (t : T) (h : Heap) : Res (Ex × T) :=
arb (.of (aBin P .add 3 (.tmp 13) (.const (.int .i64 1)) (t 13) (.int .i64 1)) h) call fun v_14 h15 =>
arb (.val v_14 h15) call fun v_16 h17 =>
k .normal (upd (upd t 67 v_14) 13 v_16) h17

def J_subs_Same_3 (P : Program) (call : FuncId → List AVal → Heap → Res AVal) (fuel : Nat) (k : Kn (Ex × T)) (t : T) (h : Heap) : Res (Ex × T) :=
lt (sqK (J_subs_Same_4 P call fuel k) k) fun k18 =>
lt (blkK 1 k18) fun k19 =>
arb (.val (t 13) h) call fun v_20 h21 =>
arb (.val v_20 h21) call fun i_22 h23 =>
obv (.val (t 0) h23) fun v_24 =>
obv (.val i_22 h23) fun v_26 =>
obv (.of (ixsR 4 v_24 v_26) h23) fun v_28 =>
obv (.of (fadR 0 v_28) h23) fun v_30 =>
obv (.of (ld1 h23 v_30) h23) fun v_32 => ifb true <|
obv (.val (t 1) h23) fun v_34 =>
obv (.val i_22 h23) fun v_36 =>
obv (.of (ixsR 4 v_34 v_36) h23) fun v_38 =>
obv (.of (fadR 0 v_38) h23) fun v_40 =>
obv (.of (ld1 h23 v_40) h23) fun v_42 => ifb true <|
obv (.of (aBin P .neq 3 (.tmp 20) (.tmp 25) v_32 v_42) h23) fun v_44 =>
obv (.val v_44 h23) fun v_46 =>
gdr (wantB v_46 false) (fun c => obv (.val (t 0) h23) fun v_48 =>
c true v_48 h23) h23 fun w50 v_48 h50 =>
gdr (wantB v_46 false) (fun c => obv (.val i_22 h50) fun v_51 =>
c true v_51 h50) h50 fun w53 v_51 h53 =>
gdr (wantB v_46 false) (fun c => obv (.of (ixsR 4 v_48 v_51) h53) fun v_54 =>
c true v_54 h53) h53 fun w56 v_54 h56 =>
gdr (wantB v_46 false) (fun c => obv (.of (fadR 1 v_54) h56) fun v_57 =>
c true v_57 h56) h56 fun w59 v_57 h59 =>
gdr (wantB v_46 false) (fun c => obv (.of (ld1 h59 v_57) h59) fun v_60 => ifb true <|
c true v_60 h59) h59 fun w62 v_60 h62 =>
gdr (wantB v_46 false) (fun c => obv (.val (t 1) h62) fun v_63 =>
c true v_63 h62) h62 fun w65 v_63 h65 =>
gdr (wantB v_46 false) (fun c => obv (.val i_22 h65) fun v_66 =>
c true v_66 h65) h65 fun w68 v_66 h68 =>
gdr (wantB v_46 false) (fun c => obv (.of (ixsR 4 v_63 v_66) h68) fun v_69 =>
c true v_69 h68) h68 fun w71 v_69 h71 =>
gdr (wantB v_46 false) (fun c => obv (.of (fadR 1 v_69) h71) fun v_72 =>
c true v_72 h71) h71 fun w74 v_72 h74 =>
gdr (wantB v_46 false) (fun c => obv (.of (ld1 h74 v_72) h74) fun v_75 => ifb true <|
c true v_75 h74) h74 fun w77 v_75 h77 =>
gdr (wantB v_46 false) (fun c => obv (.of (aBin P .neq 3 (.tmp 32) (.tmp 37) v_60 v_75) h77) fun v_78 =>
c true v_78 h77) h77 fun w80 v_78 h80 =>
obv (pkR v_46 (.bool true) v_78 h80) fun v_81 =>
obv (.val v_81 h80) fun v_83 =>
gdr (wantB v_83 false) (fun c => obv (.val (t 0) h80) fun v_85 =>
c true v_85 h80) h80 fun w87 v_85 h87 =>
gdr (wantB v_83 false) (fun c => obv (.val i_22 h87) fun v_88 =>
c true v_88 h87) h87 fun w90 v_88 h90 =>
gdr (wantB v_83 false) (fun c => obv (.of (ixsR 4 v_85 v_88) h90) fun v_91 =>
c true v_91 h90) h90 fun w93 v_91 h93 =>
gdr (wantB v_83 false) (fun c => obv (.of (fadR 2 v_91) h93) fun v_94 =>
c true v_94 h93) h93 fun w96 v_94 h96 =>
gdr (wantB v_83 false) (fun c => obv (.of (ld1 h96 v_94) h96) fun v_97 => ifb true <|
c true v_97 h96) h96 fun w99 v_97 h99 =>
gdr (wantB v_83 false) (fun c => obv (.val (t 1) h99) fun v_100 =>
c true v_100 h99) h99 fun w102 v_100 h102 =>
gdr (wantB v_83 false) (fun c => obv (.val i_22 h102) fun v_103 =>
c true v_103 h102) h102 fun w105 v_103 h105 =>
gdr (wantB v_83 false) (fun c => obv (.of (ixsR 4 v_100 v_103) h105) fun v_106 =>
c true v_106 h105) h105 fun w108 v_106 h108 =>
gdr (wantB v_83 false) (fun c => obv (.of (fadR 2 v_106) h108) fun v_109 =>
c true v_109 h108) h108 fun w111 v_109 h111 =>
gdr (wantB v_83 false) (fun c => obv (.of (ld1 h111 v_109) h111) fun v_112 => ifb true <|
c true v_112 h111) h111 fun w114 v_112 h114 =>
gdr (wantB v_83 false) (fun c => obv (.of (aBin P .neq 3 (.tmp 45) (.tmp 50) v_97 v_112) h114) fun v_115 =>
c true v_115 h114) h114 fun w117 v_115 h117 =>
obv (pkR v_83 (.bool true) v_115 h117) fun v_118 =>
obv (.val v_118 h117) fun v_120 =>
gdr (wantB v_120 false) (fun c => obv (.val (t 0) h117) fun v_122 =>
c true v_122 h117) h117 fun w124 v_122 h124 =>
gdr (wantB v_120 false) (fun c => obv (.val i_22 h124) fun v_125 =>
c true v_125 h124) h124 fun w127 v_125 h127 =>
gdr (wantB v_120 false) (fun c => obv (.of (ixsR 4 v_122 v_125) h127) fun v_128 =>
c true v_128 h127) h127 fun w130 v_128 h130 =>
gdr (wantB v_120 false) (fun c => obv (.of (fadR 3 v_128) h130) fun v_131 =>
c true v_131 h130) h130 fun w133 v_131 h133 =>
gdr (wantB v_120 false) (fun c => obv (.of (ld1 h133 v_131) h133) fun v_134 => ifb true <|
c true v_134 h133) h133 fun w136 v_134 h136 =>
gdr (wantB v_120 false) (fun c => obv (.val (t 1) h136) fun v_137 =>
c true v_137 h136) h136 fun w139 v_137 h139 =>
gdr (wantB v_120 false) (fun c => obv (.val i_22 h139) fun v_140 =>
c true v_140 h139) h139 fun w142 v_140 h142 =>
gdr (wantB v_120 false) (fun c => obv (.of (ixsR 4 v_137 v_140) h142) fun v_143 =>
c true v_143 h142) h142 fun w145 v_143 h145 =>
gdr (wantB v_120 false) (fun c => obv (.of (fadR 3 v_143) h145) fun v_146 =>
c true v_146 h145) h145 fun w148 v_146 h148 =>
gdr (wantB v_120 false) (fun c => obv (.of (ld1 h148 v_146) h148) fun v_149 => ifb true <|
c true v_149 h148) h148 fun w151 v_149 h151 =>
gdr (wantB v_120 false) (fun c => arbE (.call F_filter_Same [v_134, v_149] h151) call fun v_152 h153 => lt h153 fun g153 => ifb (true && true) <|
c true v_152 g153) h151 fun w154 v_152 h154 =>
gdr (wantB v_120 false) (fun c => obv (.of (aUn P .not v_152) h154) fun v_155 =>
c true v_155 h154) h154 fun w157 v_155 h157 =>
obv (pkR v_120 (.bool true) v_155 h157) fun v_158 =>
cb v_158 (
arb (.val (.bool false) h157) call fun v_160 h161 =>
k19 .ret (upd (upd (upd (upd (upd (upd (upd (upd (upd (upd (upd (upd (upd (upd (upd (upd (upd (upd (upd (upd (upd (upd (upd (upd (upd (upd (upd (upd (upd (upd (upd (upd (upd (upd (upd (upd (upd (upd (upd (upd (upd (upd (upd (upd (upd (upd (upd (upd (upd (upd (upd (upd (upd (upd t 15 v_20) 5 i_22) 16 v_24) 17 v_26) 18 v_28) 19 v_30) 20 v_32) 21 v_34) 22 v_36) 23 v_38) 24 v_40) 25 v_42) 26 v_44) 27 v_46) 28 v_48) 29 v_51) 30 v_54) 31 v_57) 32 v_60) 33 v_63) 34 v_66) 35 v_69) 36 v_72) 37 v_75) 38 v_78) 39 v_81) 40 v_83) 41 v_85) 42 v_88) 43 v_91) 44 v_94) 45 v_97) 46 v_100) 47 v_103) 48 v_106) 49 v_109) 50 v_112) 51 v_115) 52 v_118) 53 v_120) 54 v_122) 55 v_125) 56 v_128) 57 v_131) 58 v_134) 59 v_137) 60 v_140) 61 v_143) 62 v_146) 63 v_149) 64 v_152) 65 v_155) 66 v_158) 4 v_160) h161) (
k19 .normal (upd (upd (upd (upd (upd (upd (upd (upd (upd (upd (upd (upd (upd (upd (upd (upd (upd (upd (upd (upd (upd (upd (upd (upd (upd (upd (upd (upd (upd (upd (upd (upd (upd (upd (upd (upd (upd (upd (upd (upd (upd (upd (upd (upd (upd (upd (upd (upd (upd (upd (upd (upd (upd t 15 v_20) 5 i_22) 16 v_24) 17 v_26) 18 v_28) 19 v_30) 20 v_32) 21 v_34) 22 v_36) 23 v_38) 24 v_40) 25 v_42) 26 v_44) 27 v_46) 28 v_48) 29 v_51) 30 v_54) 31 v_57) 32 v_60) 33 v_63) 34 v_66) 35 v_69) 36 v_72) 37 v_75) 38 v_78) 39 v_81) 40 v_83) 41 v_85) 42 v_88) 43 v_91) 44 v_94) 45 v_97) 46 v_100) 47 v_103) 48 v_106) 49 v_109) 50 v_112) 51 v_115) 52 v_118) 53 v_120) 54 v_122) 55 v_125) 56 v_128) 57 v_131) 58 v_134) 59 v_137) 60 v_140) 61 v_143) 62 v_146) 63 v_149) 64 v_152) 65 v_155) 66 v_158) h157)

def L_subs_Same_2 (P : Program) (call : FuncId → List AVal → Heap → Res AVal) (fuel : Nat) (t : T) (h : Heap) : Res (Ex × T) :=
lt okK fun k =>
arb (.of (aBin P .lss 3 (.tmp 13) (.tmp 12) (t 13) (t 12)) h) call fun v_12 h13 =>
lt (sqK (J_subs_Same_3 P call fuel k) k) fun k162 =>
cb v_12 (
k162 .normal (upd t 14 v_12) h13) (
k162 (.exit 0) (upd t 14 v_12) h13)

def J_subs_Same_0 (P : Program) (call : FuncId → List AVal → Heap → Res AVal) (fuel : Nat) (k : Kn (AVal)) (t : T) (h : Heap) : Res (AVal) :=
lt (sqK (J_subs_Same_1 P call fuel k) k) fun k4 =>
arb (.val (t 0) h) call fun v_5 h6 =>
arb (.of (lenL v_5) h6) call fun v_7 h8 =>
arb (.val (.int .i64 0) h8) call fun v_9 h10 =>
lt (blkK 0 k4) fun k11 =>
(loopN (L_subs_Same_2 P call fuel) fuel (upd (upd (upd t 11 v_5) 12 v_7) 13 v_9) h10).bind (lpK k11)

def S_subs_Same (P : Program) (call : FuncId → List AVal → Heap → Res AVal) (fuel : Nat) (a_a0 b_a1 : AVal) (h : Heap) : Res AVal :=
lt (retK P [.tmp 4]) fun k =>
arb (.val (.bool false) h) call fun v_0 h1 =>
lt (sqK (J_subs_Same_0 P call fuel k) k) fun k163 =>
arb (.val a_a0 h1) call fun v_164 h165 =>
arb (.of (lenL v_164) h165) call fun v_166 h167 =>
arb (.val b_a1 h167) call fun v_168 h169 =>
arb (.of (lenL v_168) h169) call fun v_170 h171 =>
arb (.of (aBin P .neq 3 (.tmp 7) (.tmp 9) v_166 v_170) h171) call fun v_172 h173 =>
cb v_172 (
arb (.val (.bool false) h173) call fun v_174 h175 =>
k163 .ret (upd (upd (upd (upd (upd (upd (upd (enterT [a_a0, b_a1]) 4 v_0) 6 v_164) 7 v_166) 8 v_168) 9 v_170) 10 v_172) 4 v_174) h175) (
k163 .normal (upd (upd (upd (upd (upd (upd (enterT [a_a0, b_a1]) 4 v_0) 6 v_164) 7 v_166) 8 v_168) 9 v_170) 10 v_172) h173)
theorem E_subs_Same (call : FuncId → List AVal → Heap → Res AVal) (fuel : Nat) (a_a0 b_a1 : AVal) (h : Heap) : bodyR Try.prog call fuel Try.f13 [a_a0, b_a1] h = S_subs_Same Try.prog call fuel a_a0 b_a1 h := by kernel_rfl
theorem R_subs_Same {X : XTab} (a_a0 b_a1 : AVal) {h : Heap} {Q : AVal → Heap → Prop} (hx : X F_subs_Same [a_a0, b_a1] = none) (q : Tells (fun m => S_subs_Same Try.prog (acallX Try.prog X m) m a_a0 b_a1 h) Q) :
    Tells (fun m => acallX Try.prog X m F_subs_Same [a_a0, b_a1] h) Q :=
  Tells.later (q.le fun m => (E_subs_Same (acallX Try.prog X m) m a_a0 b_a1 h) ▸ acallX_le Try.func13 hx m h)

/-! ### precentor/subs.copies -/
def J_subs_copies_0 (P : Program) (call : FuncId → List AVal → Heap → Res AVal) (fuel : Nat) (k : Kn (AVal)) (t : T) (h : Heap) : Res (AVal) :=
arb (.val (t 3) h) call fun v_4 h5 =>
arb (.val v_4 h5) call fun v_6 h7 =>
k .ret (upd (upd t 18 v_4) 2 v_6) h7

def J_subs_copies_3 (P : Program) (call : FuncId → List AVal → Heap → Res AVal) (fuel : Nat) (k : Kn (Ex × T)) (t : T) (h : Heap) : Res (Ex × T) :=
arb (.of (aBin P .add 3 (.tmp 8) (.const (.int .i64 1)) (t 8) (.int .i64 1)) h) call fun v_18 h19 =>
arb (.val v_18 h19) call fun v_20 h21 =>
k .normal (upd (upd t 17 v_18) 8 v_20) h21

def J_subs_copies_2 (P : Program) (call : FuncId → List AVal → Heap → Res AVal) (fuel : Nat) (k : Kn (Ex × T)) (t : T) (h : Heap) : Res (Ex × T) :=
lt (sqK (J_subs_copies_3 P call fuel k) k) fun k22 =>
lt (blkK 1 k22) fun k23 =>
arb (.of (ixsR 4 (t 6) (t 8)) h) call fun v_24 h25 =>
arb (.of (ldn 4 h25 v_24) h25) call fun v_26 h27 =>
arb (newR [(.int .i64 0), (.int .i64 0), (.int .i64 0), .nils] h27) call fun s_28 h29 =>
arb (stR 4 h29 s_28 v_26) call fun v_30 h31 =>
arb (.val (t 3) h31) call fun v_32 h33 =>
arb (.of (ldn 4 h33 s_28) h33) call fun v_34 h35 =>
arb (.call F_subs_clone [v_34] h35) call fun v_36 h37 =>
arb (bslR 4 [(.int .i64 0), (.int .i64 0), (.int .i64 0), .nils] 1 h37 [(0, 4, v_36)]) call fun v_38 h39 =>
arb (appR 4 48 h39 v_32 v_38) call fun v_40 h41 =>
arb (.val v_40 h41) call fun out_42 h43 =>
k23 .normal (upd (upd (upd (upd (upd (upd (upd (upd (upd t 10 v_24) 11 v_26) 5 s_28) 12 v_32) 13 v_34) 14 v_36) 15 v_38) 16 v_40) 3 out_42) h43

def L_subs_copies_1 (P : Program) (call : FuncId → List AVal → Heap → Res AVal) (fuel : Nat) (t : T) (h : Heap) : Res (Ex × T) :=
lt okK fun k =>
arb (.of (aBin P .lss 3 (.tmp 8) (.tmp 7) (t 8) (t 7)) h) call fun v_16 h17 =>
lt (sqK (J_subs_copies_2 P call fuel k) k) fun k44 =>
cb v_16 (
k44 .normal (upd t 9 v_16) h17) (
k44 (.exit 0) (upd t 9 v_16) h17)

def S_subs_copies (P : Program) (call : FuncId → List AVal → Heap → Res AVal) (fuel : Nat) (l_a0 : AVal) (h : Heap) : Res AVal :=
lt (retK P [.tmp 2]) fun k =>
arb (.val .nils h) call fun v_0 h1 =>
arb (.val .nils h1) call fun out_2 h3 =>
lt (sqK (J_subs_copies_0 P call fuel k) k) fun k8 =>
arb (.val l_a0 h3) call fun v_9 h10 =>
arb (.of (lenL v_9) h10) call fun v_11 h12 =>
arb (.val (.int .i64 0) h12) call fun v_13 h14 =>
lt (blkK 0 k8) fun k15 =>
(loopN (L_subs_copies_1 P call fuel) fuel (upd (upd (upd (upd (upd (enterT [l_a0]) 2 v_0) 3 out_2) 6 v_9) 7 v_11) 8 v_13) h14).bind (lpK k15)
theorem E_subs_copies (call : FuncId → List AVal → Heap → Res AVal) (fuel : Nat) (l_a0 : AVal) (h : Heap) : bodyR Try.prog call fuel Try.f28 [l_a0] h = S_subs_copies Try.prog call fuel l_a0 h := by kernel_rfl
theorem R_subs_copies {X : XTab} (l_a0 : AVal) {h : Heap} {Q : AVal → Heap → Prop} (hx : X F_subs_copies [l_a0] = none) (q : Tells (fun m => S_subs_copies Try.prog (acallX Try.prog X m) m l_a0 h) Q) :
    Tells (fun m => acallX Try.prog X m F_subs_copies [l_a0] h) Q :=
  Tells.later (q.le fun m => (E_subs_copies (acallX Try.prog X m) m l_a0 h) ▸ acallX_le Try.func28 hx m h)

/-! ### precentor/subs.gone -/
def J_subs_gone_0 (P : Program) (call : FuncId → List AVal → Heap → Res AVal) (fuel : Nat) (k : Kn (AVal)) (t : T) (h : Heap) : Res (AVal) :=
arb (.val (t 7) h) call fun v_4 h5 =>
arb (.val v_4 h5) call fun v_6 h7 =>
k .ret (upd (upd t 31 v_4) 6 v_6) h7

def J_subs_gone_3 (P : Program) (call : FuncId → List AVal → Heap → Res AVal) (fuel : Nat) (k : Kn (Ex × T)) (t : T) (h : Heap) : Res (Ex × T) :=
arb (.of (aBin P .add 3 (.tmp 12) (.const (.int .i64 1)) (t 12) (.int .i64 1)) h) call fun v_18 h19 =>
arb (.val v_18 h19) call fun v_20 h21 =>
k .normal (upd (upd t 30 v_18) 12 v_20) h21

def J_subs_gone_2 (P : Program) (call : FuncId → List AVal → Heap → Res AVal) (fuel : Nat) (k : Kn (Ex × T)) (t : T) (h : Heap) : Res (Ex × T) :=
lt (sqK (J_subs_gone_3 P call fuel k) k) fun k22 =>
lt (blkK 1 k22) fun k23 =>
arb (.of (ixsR 4 (t 10) (t 12)) h) call fun v_24 h25 =>
arb (.of (ldn 4 h25 v_24) h25) call fun v_26 h27 =>
arb (newR [(.int .i64 0), (.int .i64 0), (.int .i64 0), .nils] h27) call fun s_28 h29 =>
arb (stR 4 h29 s_28 v_26) call fun v_30 h31 =>
arb (.of (fadR 0 s_28) h31) call fun v_32 h33 =>
arb (.of (ld1 h33 v_32) h33) call fun v_34 h35 =>
arb (.val (t 1) h35) call fun v_36 h37 =>
arb (.of (aBin P .neq 3 (.tmp 17) (.tmp 18) v_34 v_36) h37) call fun v_38 h39 =>
arb (.val v_38 h39) call fun v_40 h41 =>
gd (wantB v_40 false) (fun c => arb (.of (fadR 2 s_28) h41) call c) h41 fun v_42 h43 =>
gd (wantB v_40 false) (fun c => arb (.of (ld1 h43 v_42) h43) call c) h43 fun v_44 h45 =>
gd (wantB v_40 false) (fun c => arb (.val (t 2) h45) call c) h45 fun v_46 h47 =>
gd (wantB v_40 false) (fun c => arb (.of (aBin P .neq 3 (.tmp 22) (.tmp 23) v_44 v_46) h47) call c) h47 fun v_48 h49 =>
arb (pkR v_40 (.bool true) v_48 h49) call fun v_50 h51 =>
cb v_50 (
arb (.val (t 7) h51) call fun v_52 h53 =>
arb (.of (ldn 4 h53 s_28) h53) call fun v_54 h55 =>
arb (bslR 4 [(.int .i64 0), (.int .i64 0), (.int .i64 0), .nils] 1 h55 [(0, 4, v_54)]) call fun v_56 h57 =>
arb (appR 4 48 h57 v_52 v_56) call fun v_58 h59 =>
arb (.val v_58 h59) call fun out_60 h61 =>
k23 .normal (upd (upd (upd (upd (upd (upd (upd (upd (upd (upd (upd (upd (upd (upd (upd (upd (upd (upd t 14 v_24) 15 v_26) 9 s_28) 16 v_32) 17 v_34) 18 v_36) 19 v_38) 20 v_40) 21 v_42) 22 v_44) 23 v_46) 24 v_48) 25 v_50) 26 v_52) 27 v_54) 28 v_56) 29 v_58) 7 out_60) h61) (
k23 .normal (upd (upd (upd (upd (upd (upd (upd (upd (upd (upd (upd (upd (upd t 14 v_24) 15 v_26) 9 s_28) 16 v_32) 17 v_34) 18 v_36) 19 v_38) 20 v_40) 21 v_42) 22 v_44) 23 v_46) 24 v_48) 25 v_50) h51)

def L_subs_gone_1 (P : Program) (call : FuncId → List AVal → Heap → Res AVal) (fuel : Nat) (t : T) (h : Heap) : Res (Ex × T) :=
lt okK fun k =>
arb (.of (aBin P .lss 3 (.tmp 12) (.tmp 11) (t 12) (t 11)) h) call fun v_16 h17 =>
lt (sqK (J_subs_gone_2 P call fuel k) k) fun k62 =>
cb v_16 (
k62 .normal (upd t 13 v_16) h17) (
k62 (.exit 0) (upd t 13 v_16) h17)

def S_subs_gone (P : Program) (call : FuncId → List AVal → Heap → Res AVal) (fuel : Nat) (l_a0 client_a1 num_a2 : AVal) (h : Heap) : Res AVal :=
lt (retK P [.tmp 6]) fun k =>
arb (.val .nils h) call fun v_0 h1 =>
arb (.val .nils h1) call fun out_2 h3 =>
lt (sqK (J_subs_gone_0 P call fuel k) k) fun k8 =>
arb (.val l_a0 h3) call fun v_9 h10 =>
arb (.of (lenL v_9) h10) call fun v_11 h12 =>
arb (.val (.int .i64 0) h12) call fun v_13 h14 =>
lt (blkK 0 k8) fun k15 =>
(loopN (L_subs_gone_1 P call fuel) fuel (upd (upd (upd (upd (upd (enterT [l_a0, client_a1, num_a2]) 6 v_0) 7 out_2) 10 v_9) 11 v_11) 12 v_13) h14).bind (lpK k15)
theorem E_subs_gone (call : FuncId → List AVal → Heap → Res AVal) (fuel : Nat) (l_a0 client_a1 num_a2 : AVal) (h : Heap) : bodyR Try.prog call fuel Try.f29 [l_a0, client_a1, num_a2] h = S_subs_gone Try.prog call fuel l_a0 client_a1 num_a2 h := by kernel_rfl
theorem R_subs_gone {X : XTab} (l_a0 client_a1 num_a2 : AVal) {h : Heap} {Q : AVal → Heap → Prop} (hx : X F_subs_gone [l_a0, client_a1, num_a2] = none) (q : Tells (fun m => S_subs_gone Try.prog (acallX Try.prog X m) m l_a0 client_a1 num_a2 h) Q) :
    Tells (fun m => acallX Try.prog X m F_subs_gone [l_a0, client_a1, num_a2] h) Q :=
  Tells.later (q.le fun m => (E_subs_gone (acallX Try.prog X m) m l_a0 client_a1 num_a2 h) ▸ acallX_le Try.func29 hx m h)

/-! ### precentor/subs.come -/
def J_subs_come_1 (P : Program) (call : FuncId → List AVal → Heap → Res AVal) (fuel : Nat) (k : Kn (AVal)) (t : T) (h : Heap) : Res (AVal) :=
arb (.val (t 0) h) call fun v_6 h7 =>
arb (.val (t 6) h7) call fun v_8 h9 =>
arb (.of (slcR 4 v_6 none (some v_8) none) h9) call fun v_10 h11 =>
arb (appR 4 48 h11 .nils v_10) call fun v_12 h13 =>
arb (.val v_12 h13) call fun out_14 h15 =>
obv (.val out_14 h15) fun v_16 =>
obv (.of (ldn 4 h15 (t 3)) h15) fun v_18 => ifb true <|
arbV (bslR 4 [(.int .i64 0), (.int .i64 0), (.int .i64 0), .nils] 1 h15 [(0, 4, v_18)]) fun v_20 h21 =>
arbE (appR 4 48 h21 v_16 v_20) call fun v_22 h23 => lt h23 fun g23 => ifb (true && true) <|
obv (.val (t 0) g23) fun v_24 =>
obv (.val (t 6) g23) fun v_26 =>
obv (.of (slcR 4 v_24 (some v_26) none none) g23) fun v_28 =>
arbE (appR 4 48 g23 v_22 v_28) call fun v_30 h31 => lt h31 fun g31 => ifb (true && true) <|
obv (.val v_30 g31) fun v_32 =>
k .ret (upd (upd (upd (upd (upd (upd (upd (upd (upd (upd (upd (upd (upd (upd t 73 v_6) 74 v_8) 75 v_10) 76 v_12) 7 out_14) 77 v_16) 78 v_18) 79 v_20) 80 v_22) 81 v_24) 82 v_26) 83 v_28) 84 v_30) 4 v_32) g31

def J_subs_come_3 (P : Program) (call : FuncId → List AVal → Heap → Res AVal) (fuel : Nat) (k : Kn (Ex × T)) (t : T) (h : Heap) : Res (Ex × T) :=
lt (blkK 3 k) fun k36 =>
arb (.val (t 6) h) call fun v_37 h38 =>
arb (.of (aBin P .add 3 (.tmp 71) (.const (.int .i64 1)) v_37 (.int .i64 1)) h38) call fun v_39 h40 =>
arb (.val v_39 h40) call fun at_41 h42 =>
k36 .normal (upd (upd (upd t 71 v_37) 72 v_39) 6 at_41) h42

def L_subs_come_2 (P : Program) (call : FuncId → List AVal → Heap → Res AVal) (fuel : Nat) (t : T) (h : Heap) : Res (Ex × T) :=
lt okK fun k =>
lt (sqK (J_subs_come_3 P call fuel k) k) fun k43 =>
obv (.val (t 6) h) fun v_44 =>
obv (.val (t 0) h) fun v_45 =>
obv (.of (lenL v_45) h) fun v_46 =>
obv (.of (aBin P .lss 3 (.tmp 37) (.tmp 39) v_44 v_46) h) fun v_47 =>
obv (.val v_47 h) fun v_48 =>
gd (wantB v_48 true) (fun c => obv (.val (t 0) h) fun v => c v h) h fun v_49 h50 =>
gd (wantB v_48 true) (fun c => obv (.val (t 6) h50) fun v => c v h50) h50 fun v_51 h52 =>
gd (wantB v_48 true) (fun c => obv (.of (ixsR 4 v_49 v_51) h52) fun v => c v h52) h52 fun v_53 h54 =>
gd (wantB v_48 true) (fun c => obv (.of (fadR 0 v_53) h54) fun v => c v h54) h54 fun v_55 h56 =>
gd (wantB v_48 true) (fun c => obv (.of (ld1 h56 v_55) h56) fun v => c v h56) h56 fun v_57 h58 =>
gd (wantB v_48 true) (fun c => obv (.of (fadR 0 (t 3)) h58) fun v => c v h58) h58 fun v_59 h60 =>
gd (wantB v_48 true) (fun c => obv (.of (ld1 h60 v_59) h60) fun v => c v h60) h60 fun v_61 h62 =>
gd (wantB v_48 true) (fun c => obv (.of (aBin P .lss 3 (.tmp 46) (.tmp 48) v_57 v_61) h62) fun v => c v h62) h62 fun v_63 h64 =>
gd (wantB v_48 true) (fun c => obv (.val v_63 h64) fun v => c v h64) h64 fun v_65 h66 =>
gd (wantB v_65 false) (fun c => obv (.val (t 0) h66) fun v => c v h66) h66 fun v_67 h68 =>
gd (wantB v_65 false) (fun c => obv (.val (t 6) h68) fun v => c v h68) h68 fun v_69 h70 =>
gd (wantB v_65 false) (fun c => obv (.of (ixsR 4 v_67 v_69) h70) fun v => c v h70) h70 fun v_71 h72 =>
gd (wantB v_65 false) (fun c => obv (.of (fadR 0 v_71) h72) fun v => c v h72) h72 fun v_73 h74 =>
gd (wantB v_65 false) (fun c => obv (.of (ld1 h74 v_73) h74) fun v => c v h74) h74 fun v_75 h76 =>
gd (wantB v_65 false) (fun c => obv (.of (fadR 0 (t 3)) h76) fun v => c v h76) h76 fun v_77 h78 =>
gd (wantB v_65 false) (fun c => obv (.of (ld1 h78 v_77) h78) fun v => c v h78) h78 fun v_79 h80 =>
gd (wantB v_65 false) (fun c => obv (.of (aBin P .eql 3 (.tmp 55) (.tmp 57) v_75 v_79) h80) fun v => c v h80) h80 fun v_81 h82 =>
gd (wantB v_65 false) (fun c => obv (.val v_81 h82) fun v => c v h82) h82 fun v_83 h84 =>
gd (wantB v_83 true) (fun c => obv (.val (t 0) h84) fun v => c v h84) h84 fun v_85 h86 =>
gd (wantB v_83 true) (fun c => obv (.val (t 6) h86) fun v => c v h86) h86 fun v_87 h88 =>
gd (wantB v_83 true) (fun c => obv (.of (ixsR 4 v_85 v_87) h88) fun v => c v h88) h88 fun v_89 h90 =>
gd (wantB v_83 true) (fun c => obv (.of (fadR 2 v_89) h90) fun v => c v h90) h90 fun v_91 h92 =>
gd (wantB v_83 true) (fun c => obv (.of (ld1 h92 v_91) h92) fun v => c v h92) h92 fun v_93 h94 =>
gd (wantB v_83 true) (fun c => obv (.of (fadR 2 (t 3)) h94) fun v => c v h94) h94 fun v_95 h96 =>
gd (wantB v_83 true) (fun c => obv (.of (ld1 h96 v_95) h96) fun v => c v h96) h96 fun v_97 h98 =>
gd (wantB v_83 true) (fun c => obv (.of (aBin P .lss 3 (.tmp 64) (.tmp 66) v_93 v_97) h98) fun v => c v h98) h98 fun v_99 h100 =>
gd (wantB v_65 false) (fun c => obv (pkR v_83 v_99 (.bool false) h100) fun v => c v h100) h100 fun v_101 h102 =>
gd (wantB v_48 true) (fun c => obv (pkR v_65 (.bool true) v_101 h102) fun v => c v h102) h102 fun v_103 h104 =>
obv (pkR v_48 v_103 (.bool false) h104) fun v_105 =>
cb v_105 (
k43 .normal (upd (upd (upd (upd (upd (upd (upd (upd (upd (upd (upd (upd (upd (upd (upd (upd (upd (upd (upd (upd (upd (upd (upd (upd (upd (upd (upd (upd (upd (upd (upd (upd (upd (upd t 37 v_44) 38 v_45) 39 v_46) 40 v_47) 41 v_48) 42 v_49) 43 v_51) 44 v_53) 45 v_55) 46 v_57) 47 v_59) 48 v_61) 49 v_63) 50 v_65) 51 v_67) 52 v_69) 53 v_71) 54 v_73) 55 v_75) 56 v_77) 57 v_79) 58 v_81) 59 v_83) 60 v_85) 61 v_87) 62 v_89) 63 v_91) 64 v_93) 65 v_95) 66 v_97) 67 v_99) 68 v_101) 69 v_103) 70 v_105) h104) (
k43 (.exit 2) (upd (upd (upd (upd (upd (upd (upd (upd (upd (upd (upd (upd (upd (upd (upd (upd (upd (upd (upd (upd (upd (upd (upd (upd (upd (upd (upd (upd (upd (upd (upd (upd (upd (upd t 37 v_44) 38 v_45) 39 v_46) 40 v_47) 41 v_48) 42 v_49) 43 v_51) 44 v_53) 45 v_55) 46 v_57) 47 v_59) 48 v_61) 49 v_63) 50 v_65) 51 v_67) 52 v_69) 53 v_71) 54 v_73) 55 v_75) 56 v_77) 57 v_79) 58 v_81) 59 v_83) 60 v_85) 61 v_87) 62 v_89) 63 v_91) 64 v_93) 65 v_95) 66 v_97) 67 v_99) 68 v_101) 69 v_103) 70 v_105) h104)

def J_subs_come_0 (P : Program) (call : FuncId → List AVal → Heap → Res AVal) (fuel : Nat) (k : Kn (AVal)) (t : T) (h : Heap) : Res (AVal) :=
arb (.val (.int .i64 0) h) call fun at_4 h5 =>
lt (sqK (J_subs_come_1 P call fuel k) k) fun k34 =>
lt (blkK 2 k34) fun k35 =>
(loopN (L_subs_come_2 P call fuel) fuel (upd t 6 at_4) h5).bind (lpK k35)

def J_subs_come_6 (P : Program) (call : FuncId → List AVal → Heap → Res AVal) (fuel : Nat) (k : Kn (Ex × T)) (t : T) (h : Heap) : Res (Ex × T) :=
arb (.of (aBin P .add 3 (.tmp 10) (.const (.int .i64 1)) (t 10) (.int .i64 1)) h) call fun v_116 h117 =>
arb (.val v_116 h117) call fun v_118 h119 =>
k .normal (upd (upd t 36 v_116) 10 v_118) h119

def J_subs_come_5 (P : Program) (call : FuncId → List AVal → Heap → Res AVal) (fuel : Nat) (k : Kn (Ex × T)) (t : T) (h : Heap) : Res (Ex × T) :=
lt (sqK (J_subs_come_6 P call fuel k) k) fun k120 =>
lt (blkK 1 k120) fun k121 =>
arb (.val (t 10) h) call fun v_122 h123 =>
arb (.val v_122 h123) call fun i_124 h125 =>
obv (.val (t 0) h125) fun v_126 =>
obv (.val i_124 h125) fun v_127 =>
obv (.of (ixsR 4 v_126 v_127) h125) fun v_128 =>
obv (.of (fadR 0 v_128) h125) fun v_129 =>
obv (.of (ld1 h125 v_129) h125) fun v_130 =>
obv (.of (fadR 0 (t 3)) h125) fun v_131 =>
obv (.of (ld1 h125 v_131) h125) fun v_132 =>
obv (.of (aBin P .eql 3 (.tmp 17) (.tmp 19) v_130 v_132) h125) fun v_133 =>
obv (.val v_133 h125) fun v_134 =>
gd (wantB v_134 true) (fun c => obv (.val (t 0) h125) fun v => c v h125) h125 fun v_135 h136 =>
gd (wantB v_134 true) (fun c => obv (.val i_124 h136) fun v => c v h136) h136 fun v_137 h138 =>
gd (wantB v_134 true) (fun c => obv (.of (ixsR 4 v_135 v_137) h138) fun v => c v h138) h138 fun v_139 h140 =>
gd (wantB v_134 true) (fun c => obv (.of (fadR 2 v_139) h140) fun v => c v h140) h140 fun v_141 h142 =>
gd (wantB v_134 true) (fun c => obv (.of (ld1 h142 v_141) h142) fun v => c v h142) h142 fun v_143 h144 =>
gd (wantB v_134 true) (fun c => obv (.of (fadR 2 (t 3)) h144) fun v => c v h144) h144 fun v_145 h146 =>
gd (wantB v_134 true) (fun c => obv (.of (ld1 h146 v_145) h146) fun v => c v h146) h146 fun v_147 h148 =>
gd (wantB v_134 true) (fun c => obv (.of (aBin P .eql 3 (.tmp 26) (.tmp 28) v_143 v_147) h148) fun v => c v h148) h148 fun v_149 h150 =>
obv (pkR v_134 v_149 (.bool false) h150) fun v_151 =>
cb v_151 (
arb (.val (t 0) h150) call fun v_152 h153 =>
arb (.val i_124 h153) call fun v_154 h155 =>
arb (.of (ldn 4 h155 (t 3)) h155) call fun v_156 h157 =>
arb (.of (ixsR 4 v_152 v_154) h157) call fun v_158 h159 =>
arb (stR 4 h159 v_158 v_156) call fun v_160 h161 =>
arb (.val (t 0) h161) call fun v_162 h163 =>
arb (.val v_162 h163) call fun v_164 h165 =>
k121 .ret (upd (upd (upd (upd (upd (upd (upd (upd (upd (upd (upd (upd (upd (upd (upd (upd (upd (upd (upd (upd (upd (upd (upd (upd (upd (upd t 12 v_122) 5 i_124) 13 v_126) 14 v_127) 15 v_128) 16 v_129) 17 v_130) 18 v_131) 19 v_132) 20 v_133) 21 v_134) 22 v_135) 23 v_137) 24 v_139) 25 v_141) 26 v_143) 27 v_145) 28 v_147) 29 v_149) 30 v_151) 31 v_152) 32 v_154) 33 v_156) 34 v_158) 35 v_162) 4 v_164) h165) (
k121 .normal (upd (upd (upd (upd (upd (upd (upd (upd (upd (upd (upd (upd (upd (upd (upd (upd (upd (upd (upd (upd t 12 v_122) 5 i_124) 13 v_126) 14 v_127) 15 v_128) 16 v_129) 17 v_130) 18 v_131) 19 v_132) 20 v_133) 21 v_134) 22 v_135) 23 v_137) 24 v_139) 25 v_141) 26 v_143) 27 v_145) 28 v_147) 29 v_149) 30 v_151) h150)

def L_subs_come_4 (P : Program) (call : FuncId → List AVal → Heap → Res AVal) (fuel : Nat) (t : T) (h : Heap) : Res (Ex × T) :=
lt okK fun k =>
arb (.of (aBin P .lss 3 (.tmp 10) (.tmp 9) (t 10) (t 9)) h) call fun v_114 h115 =>
lt (sqK (J_subs_come_5 P call fuel k) k) fun k166 =>
cb v_114 (
k166 .normal (upd t 11 v_114) h115) (
k166 (.exit 0) (upd t 11 v_114) h115)

def S_subs_come (P : Program) (call : FuncId → List AVal → Heap → Res AVal) (fuel : Nat) (l_a0 s_a1 : AVal) (h : Heap) : Res AVal :=
lt (retK P [.tmp 4]) fun k =>
arb (boxR s_a1 h) call fun s_0 h1 =>
arb (.val .nils h1) call fun v_2 h3 =>
lt (sqK (J_subs_come_0 P call fuel k) k) fun k106 =>
arb (.val l_a0 h3) call fun v_107 h108 =>
arb (.of (lenL v_107) h108) call fun v_109 h110 =>
arb (.val (.int .i64 0) h110) call fun v_111 h112 =>
lt (blkK 0 k106) fun k113 =>
(loopN (L_subs_come_4 P call fuel) fuel (upd (upd (upd (upd (upd (enterT [l_a0, s_a1]) 3 s_0) 4 v_2) 8 v_107) 9 v_109) 10 v_111) h112).bind (lpK k113)
theorem E_subs_come (call : FuncId → List AVal → Heap → Res AVal) (fuel : Nat) (l_a0 s_a1 : AVal) (h : Heap) : bodyR Try.prog call fuel Try.f30 [l_a0, s_a1] h = S_subs_come Try.prog call fuel l_a0 s_a1 h := by kernel_rfl
theorem R_subs_come {X : XTab} (l_a0 s_a1 : AVal) {h : Heap} {Q : AVal → Heap → Prop} (hx : X F_subs_come [l_a0, s_a1] = none) (q : Tells (fun m => S_subs_come Try.prog (acallX Try.prog X m) m l_a0 s_a1 h) Q) :
    Tells (fun m => acallX Try.prog X m F_subs_come [l_a0, s_a1] h) Q :=
  Tells.later (q.le fun m => (E_subs_come (acallX Try.prog X m) m l_a0 s_a1 h) ▸ acallX_le Try.func30 hx m h)

/-! ### precentor/subs.clone -/

theorem C_subs_clone_0 (h : Heap) (a : AVal) : aLoad Try.prog h 24 a = ldn 4 h a := by kernel_rfl
def S_subs_clone (P : Program) (call : FuncId → List AVal → Heap → Res AVal) (fuel : Nat) (s_a0 : AVal) (h : Heap) : Res AVal :=
lt (retK P [.cell 2 24]) fun k =>
arb (boxR s_a0 h) call fun s_0 h1 =>
arb (newR [(.int .i64 0), (.int .i64 0), (.int .i64 0), .nils] h1) call fun v_2 h3 =>
arb (.of (fadR 3 s_0) h3) call fun v_4 h5 =>
arb (.of (ld1 h5 v_4) h5) call fun v_6 h7 =>
arb (.call F_filter_Copy [v_6] h7) call fun v_8 h9 =>
arb (.of (fadR 3 s_0) h9) call fun v_10 h11 =>
arb (stR 1 h11 v_10 v_8) call fun v_12 h13 =>
arb (.of (ldn 4 h13 s_0) h13) call fun v_14 h15 =>
arb (stR 4 h15 v_2 v_14) call fun v_16 h17 =>
k .ret (upd (upd (upd (upd (upd (upd (upd (enterT [s_a0]) 1 s_0) 2 v_2) 3 v_4) 4 v_6) 5 v_8) 6 v_10) 7 v_14) h17
theorem E_subs_clone (call : FuncId → List AVal → Heap → Res AVal) (fuel : Nat) (s_a0 : AVal) (h : Heap) : bodyR Try.prog call fuel Try.f31 [s_a0] h = S_subs_clone Try.prog call fuel s_a0 h := by kernel_rfl
theorem R_subs_clone {X : XTab} (s_a0 : AVal) {h : Heap} {Q : AVal → Heap → Prop} (hx : X F_subs_clone [s_a0] = none) (q : Tells (fun m => S_subs_clone Try.prog (acallX Try.prog X m) m s_a0 h) Q) :
    Tells (fun m => acallX Try.prog X m F_subs_clone [s_a0] h) Q :=
  Tells.later (q.le fun m => (E_subs_clone (acallX Try.prog X m) m s_a0 h) ▸ acallX_le Try.func31 hx m h)

/-! ### precentor/subs.lay -/
def J_subs_lay_1 (P : Program) (call : FuncId → List AVal → Heap → Res AVal) (fuel : Nat) (k : Kn (AVal)) (t : T) (h : Heap) : Res (AVal) :=
arb (.val (t 0) h) call fun v_4 h5 =>
arb (.val (t 5) h5) call fun v_6 h7 =>
arb (.of (slcR 1 v_4 none (some v_6) none) h7) call fun v_8 h9 =>
arb (appR 1 8 h9 .nils v_8) call fun v_10 h11 =>
arb (.val v_10 h11) call fun out_12 h13 =>
obv (.val out_12 h13) fun v_14 =>
obv (.val (t 1) h13) fun v_16 =>
arbV (bslR 1 [(.int .i64 0)] 1 h13 [(0, 1, v_16)]) fun v_18 h19 =>
arbE (appR 1 8 h19 v_14 v_18) call fun v_20 h21 => lt h21 fun g21 => ifb (true && true) <|
obv (.val (t 0) g21) fun v_22 =>
obv (.val (t 5) g21) fun v_24 =>
obv (.of (slcR 1 v_22 (some v_24) none none) g21) fun v_26 =>
arbE (appR 1 8 g21 v_20 v_26) call fun v_28 h29 => lt h29 fun g29 => ifb (true && true) <|
obv (.val v_28 g29) fun v_30 =>
k .ret (upd (upd (upd (upd (upd (upd (upd (upd (upd (upd (upd (upd (upd (upd t 34 v_4) 35 v_6) 36 v_8) 37 v_10) 6 out_12) 38 v_14) 39 v_16) 40 v_18) 41 v_20) 42 v_22) 43 v_24) 44 v_26) 45 v_28) 4 v_30) g29

def J_subs_lay_0 (P : Program) (call : FuncId → List AVal → Heap → Res AVal) (fuel : Nat) (k : Kn (AVal)) (t : T) (h : Heap) : Res (AVal) :=
lt (sqK (J_subs_lay_1 P call fuel k) k) fun k32 =>
arb (.val (t 5) h) call fun v_33 h34 =>
arb (.val (t 0) h34) call fun v_35 h36 =>
arb (.of (lenL v_35) h36) call fun v_37 h38 =>
arb (.of (aBin P .lss 3 (.tmp 21) (.tmp 23) v_33 v_37) h38) call fun v_39 h40 =>
arb (.val v_39 h40) call fun v_41 h42 =>
gd (wantB v_41 true) (fun c => arb (.val (t 0) h42) call c) h42 fun v_43 h44 =>
gd (wantB v_41 true) (fun c => arb (.val (t 5) h44) call c) h44 fun v_45 h46 =>
gd (wantB v_41 true) (fun c => arb (.of (ixsR 1 v_43 v_45) h46) call c) h46 fun v_47 h48 =>
gd (wantB v_41 true) (fun c => arb (.of (ld1 h48 v_47) h48) call c) h48 fun v_49 h50 =>
gd (wantB v_41 true) (fun c => arb (.val (t 1) h50) call c) h50 fun v_51 h52 =>
gd (wantB v_41 true) (fun c => arb (.of (aBin P .eql 3 (.tmp 29) (.tmp 30) v_49 v_51) h52) call c) h52 fun v_53 h54 =>
arb (pkR v_41 v_53 (.bool false) h54) call fun v_55 h56 =>
cb v_55 (
arb (.val (t 0) h56) call fun v_57 h58 =>
arb (.val v_57 h58) call fun v_59 h60 =>
k32 .ret (upd (upd (upd (upd (upd (upd (upd (upd (upd (upd (upd (upd (upd (upd t 21 v_33) 22 v_35) 23 v_37) 24 v_39) 25 v_41) 26 v_43) 27 v_45) 28 v_47) 29 v_49) 30 v_51) 31 v_53) 32 v_55) 33 v_57) 4 v_59) h60) (
k32 .normal (upd (upd (upd (upd (upd (upd (upd (upd (upd (upd (upd (upd t 21 v_33) 22 v_35) 23 v_37) 24 v_39) 25 v_41) 26 v_43) 27 v_45) 28 v_47) 29 v_49) 30 v_51) 31 v_53) 32 v_55) h56)

def J_subs_lay_3 (P : Program) (call : FuncId → List AVal → Heap → Res AVal) (fuel : Nat) (k : Kn (Ex × T)) (t : T) (h : Heap) : Res (Ex × T) :=
lt (blkK 1 k) fun k63 =>
arb (.val (t 5) h) call fun v_64 h65 =>
arb (.of (aBin P .add 3 (.tmp 19) (.const (.int .i64 1)) v_64 (.int .i64 1)) h65) call fun v_66 h67 =>
arb (.val v_66 h67) call fun at_68 h69 =>
k63 .normal (upd (upd (upd t 19 v_64) 20 v_66) 5 at_68) h69

def L_subs_lay_2 (P : Program) (call : FuncId → List AVal → Heap → Res AVal) (fuel : Nat) (t : T) (h : Heap) : Res (Ex × T) :=
lt okK fun k =>
lt (sqK (J_subs_lay_3 P call fuel k) k) fun k70 =>
arb (.val (t 5) h) call fun v_71 h72 =>
arb (.val (t 0) h72) call fun v_73 h74 =>
arb (.of (lenL v_73) h74) call fun v_75 h76 =>
arb (.of (aBin P .lss 3 (.tmp 7) (.tmp 9) v_71 v_75) h76) call fun v_77 h78 =>
arb (.val v_77 h78) call fun v_79 h80 =>
gd (wantB v_79 true) (fun c => arb (.val (t 0) h80) call c) h80 fun v_81 h82 =>
gd (wantB v_79 true) (fun c => arb (.val (t 5) h82) call c) h82 fun v_83 h84 =>
gd (wantB v_79 true) (fun c => arb (.of (ixsR 1 v_81 v_83) h84) call c) h84 fun v_85 h86 =>
gd (wantB v_79 true) (fun c => arb (.of (ld1 h86 v_85) h86) call c) h86 fun v_87 h88 =>
gd (wantB v_79 true) (fun c => arb (.val (t 1) h88) call c) h88 fun v_89 h90 =>
gd (wantB v_79 true) (fun c => arb (.of (aBin P .lss 3 (.tmp 15) (.tmp 16) v_87 v_89) h90) call c) h90 fun v_91 h92 =>
arb (pkR v_79 v_91 (.bool false) h92) call fun v_93 h94 =>
cb v_93 (
k70 .normal (upd (upd (upd (upd (upd (upd (upd (upd (upd (upd (upd (upd t 7 v_71) 8 v_73) 9 v_75) 10 v_77) 11 v_79) 12 v_81) 13 v_83) 14 v_85) 15 v_87) 16 v_89) 17 v_91) 18 v_93) h94) (
k70 (.exit 0) (upd (upd (upd (upd (upd (upd (upd (upd (upd (upd (upd (upd t 7 v_71) 8 v_73) 9 v_75) 10 v_77) 11 v_79) 12 v_81) 13 v_83) 14 v_85) 15 v_87) 16 v_89) 17 v_91) 18 v_93) h94)

def S_subs_lay (P : Program) (call : FuncId → List AVal → Heap → Res AVal) (fuel : Nat) (l_a0 n_a1 : AVal) (h : Heap) : Res AVal :=
lt (retK P [.tmp 4]) fun k =>
arb (.val .nils h) call fun v_0 h1 =>
arb (.val (.int .i64 0) h1) call fun at_2 h3 =>
lt (sqK (J_subs_lay_0 P call fuel k) k) fun k61 =>
lt (blkK 0 k61) fun k62 =>
(loopN (L_subs_lay_2 P call fuel) fuel (upd (upd (enterT [l_a0, n_a1]) 4 v_0) 5 at_2) h3).bind (lpK k62)
theorem E_subs_lay (call : FuncId → List AVal → Heap → Res AVal) (fuel : Nat) (l_a0 n_a1 : AVal) (h : Heap) : bodyR Try.prog call fuel Try.f32 [l_a0, n_a1] h = S_subs_lay Try.prog call fuel l_a0 n_a1 h := by kernel_rfl
theorem R_subs_lay {X : XTab} (l_a0 n_a1 : AVal) {h : Heap} {Q : AVal → Heap → Prop} (hx : X F_subs_lay [l_a0, n_a1] = none) (q : Tells (fun m => S_subs_lay Try.prog (acallX Try.prog X m) m l_a0 n_a1 h) Q) :
    Tells (fun m => acallX Try.prog X m F_subs_lay [l_a0, n_a1] h) Q :=
  Tells.later (q.le fun m => (E_subs_lay (acallX Try.prog X m) m l_a0 n_a1 h) ▸ acallX_le Try.func32 hx m h)

/-! ### precentor/subs.may -/

def S_subs_may (P : Program) (call : FuncId → List AVal → Heap → Res AVal) (fuel : Nat) (s_a0 : AVal) (h : Heap) : Res AVal :=
lt (retK P [.tmp 2]) fun k =>
arb (boxR s_a0 h) call fun s_0 h1 =>
arb (.val (.bool false) h1) call fun v_2 h3 =>
arb (.of (fadR 0 s_0) h3) call fun v_4 h5 =>
arb (.of (ld1 h5 v_4) h5) call fun v_6 h7 =>
arb (.of (aBin P .geq 3 (.tmp 4) (.const (.int .i64 1)) v_6 (.int .i64 1)) h7) call fun v_8 h9 =>
arb (.val v_8 h9) call fun v_10 h11 =>
gd (wantB v_10 true) (fun c => arb (.of (fadR 0 s_0) h11) call c) h11 fun v_12 h13 =>
gd (wantB v_10 true) (fun c => arb (.of (ld1 h13 v_12) h13) call c) h13 fun v_14 h15 =>
gd (wantB v_10 true) (fun c => arb (.of (aBin P .leq 3 (.tmp 8) (.const (.int .i64 6)) v_14 (.int .i64 6)) h15) call c) h15 fun v_16 h17 =>
arb (pkR v_10 v_16 (.bool false) h17) call fun v_18 h19 =>
arb (.val v_18 h19) call fun v_20 h21 =>
gd (wantB v_20 true) (fun c => arb (.of (fadR 1 s_0) h21) call c) h21 fun v_22 h23 =>
gd (wantB v_20 true) (fun c => arb (.of (ld1 h23 v_22) h23) call c) h23 fun v_24 h25 =>
gd (wantB v_20 true) (fun c => arb (.of (aBin P .geq 3 (.tmp 13) (.const (.int .i64 0)) v_24 (.int .i64 0)) h25) call c) h25 fun v_26 h27 =>
arb (pkR v_20 v_26 (.bool false) h27) call fun v_28 h29 =>
arb (.val v_28 h29) call fun v_30 h31 =>
gd (wantB v_30 true) (fun c => arb (.of (fadR 1 s_0) h31) call c) h31 fun v_32 h33 =>
gd (wantB v_30 true) (fun c => arb (.of (ld1 h33 v_32) h33) call c) h33 fun v_34 h35 =>
gd (wantB v_30 true) (fun c => arb (.of (aBin P .leq 3 (.tmp 18) (.const (.int .i64 7)) v_34 (.int .i64 7)) h35) call c) h35 fun v_36 h37 =>
arb (pkR v_30 v_36 (.bool false) h37) call fun v_38 h39 =>
arb (.val v_38 h39) call fun v_40 h41 =>
gd (wantB v_40 true) (fun c => arb (.of (fadR 2 s_0) h41) call c) h41 fun v_42 h43 =>
gd (wantB v_40 true) (fun c => arb (.of (ld1 h43 v_42) h43) call c) h43 fun v_44 h45 =>
gd (wantB v_40 true) (fun c => arb (.of (aBin P .geq 3 (.tmp 23) (.const (.int .i64 1)) v_44 (.int .i64 1)) h45) call c) h45 fun v_46 h47 =>
arb (pkR v_40 v_46 (.bool false) h47) call fun v_48 h49 =>
arb (.val v_48 h49) call fun v_50 h51 =>
gd (wantB v_50 true) (fun c => arb (.of (fadR 2 s_0) h51) call c) h51 fun v_52 h53 =>
gd (wantB v_50 true) (fun c => arb (.of (ld1 h53 v_52) h53) call c) h53 fun v_54 h55 =>
gd (wantB v_50 true) (fun c => arb (.of (aBin P .leq 3 (.tmp 28) (.const (.int .i64 4611686018427387904)) v_54 (.int .i64 4611686018427387904)) h55) call c) h55 fun v_56 h57 =>
arb (pkR v_50 v_56 (.bool false) h57) call fun v_58 h59 =>
arb (.val v_58 h59) call fun v_60 h61 =>
gd (wantB v_60 true) (fun c => arb (.of (fadR 3 s_0) h61) call c) h61 fun v_62 h63 =>
gd (wantB v_60 true) (fun c => arb (.of (ld1 h63 v_62) h63) call c) h63 fun v_64 h65 =>
gd (wantB v_60 true) (fun c => arb (.call F_filter_Right [v_64] h65) call c) h65 fun v_66 h67 =>
arb (pkR v_60 v_66 (.bool false) h67) call fun v_68 h69 =>
arb (.val v_68 h69) call fun v_70 h71 =>
k .ret (upd (upd (upd (upd (upd (upd (upd (upd (upd (upd (upd (upd (upd (upd (upd (upd (upd (upd (upd (upd (upd (upd (upd (upd (upd (upd (upd (upd (upd (upd (upd (upd (upd (upd (upd (upd (enterT [s_a0]) 1 s_0) 2 v_2) 3 v_4) 4 v_6) 5 v_8) 6 v_10) 7 v_12) 8 v_14) 9 v_16) 10 v_18) 11 v_20) 12 v_22) 13 v_24) 14 v_26) 15 v_28) 16 v_30) 17 v_32) 18 v_34) 19 v_36) 20 v_38) 21 v_40) 22 v_42) 23 v_44) 24 v_46) 25 v_48) 26 v_50) 27 v_52) 28 v_54) 29 v_56) 30 v_58) 31 v_60) 32 v_62) 33 v_64) 34 v_66) 35 v_68) 2 v_70) h71
theorem E_subs_may (call : FuncId → List AVal → Heap → Res AVal) (fuel : Nat) (s_a0 : AVal) (h : Heap) : bodyR Try.prog call fuel Try.f33 [s_a0] h = S_subs_may Try.prog call fuel s_a0 h := by kernel_rfl
theorem R_subs_may {X : XTab} (s_a0 : AVal) {h : Heap} {Q : AVal → Heap → Prop} (hx : X F_subs_may [s_a0] = none) (q : Tells (fun m => S_subs_may Try.prog (acallX Try.prog X m) m s_a0 h) Q) :
    Tells (fun m => acallX Try.prog X m F_subs_may [s_a0] h) Q :=
  Tells.later (q.le fun m => (E_subs_may (acallX Try.prog X m) m s_a0 h) ▸ acallX_le Try.func33 hx m h)


end Go.Proofs.Ytooeiefgnhgbeaa
