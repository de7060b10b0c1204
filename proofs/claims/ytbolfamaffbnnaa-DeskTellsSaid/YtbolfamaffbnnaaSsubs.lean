/-
  Functions of subs in the form of YtbolfamaffbnnaaABS (printed by a program of ours, gen.lean).
-/
import Derived.Test.YtbolfamaffbnnaaSIds
set_option linter.unusedVariables false
namespace Go.Proofs.Ytbolfamaffbnnaa
open Go.Ab
/-! ### precentor/subs.Of -/
def J_subs_Of_0 (P : Program) (call : FuncId → List AVal → Heap → Res AVal) (fuel : Nat) (k : Kn (AVal)) (t : T) (h : Heap) : Res (AVal) :=
arb (.val (t 5) h) call fun v_4 h5 =>
arb (.val v_4 h5) call fun v_6 h7 =>
k .ret (upd (upd t 24 v_4) 4 v_6) h7

def J_subs_Of_3 (P : Program) (call : FuncId → List AVal → Heap → Res AVal) (fuel : Nat) (k : Kn (Ex × T)) (t : T) (h : Heap) : Res (Ex × T) :=
arb (.of (aBin P .add 3 (.tmp 10) (.const (.int .i64 1)) (t 10) (.int .i64 1)) h) call fun v_18 h19 =>
arb (.val v_18 h19) call fun v_20 h21 =>
k .normal (upd (upd t 23 v_18) 10 v_20) h21

def J_subs_Of_2 (P : Program) (call : FuncId → List AVal → Heap → Res AVal) (fuel : Nat) (k : Kn (Ex × T)) (t : T) (h : Heap) : Res (Ex × T) :=
lt (sqK (J_subs_Of_3 P call fuel k) k) fun k22 =>
lt (blkK 1 k22) fun k23 =>
arb (.of (ixsR 4 (t 8) (t 10)) h) call fun v_24 h25 =>
arb (.of (ldn 4 h25 v_24) h25) call fun v_26 h27 =>
arb (newR [(.int .i64 0), (.int .i64 0), (.int .i64 0), .nils] h27) call fun s_28 h29 =>
arb (stR 4 h29 s_28 v_26) call fun v_30 h31 =>
arb (.of (fadR 0 s_28) h31) call fun v_32 h33 =>
arb (.of (ld1 h33 v_32) h33) call fun v_34 h35 =>
arb (.val (t 1) h35) call fun v_36 h37 =>
arb (.of (aBin P .eql 3 (.tmp 15) (.tmp 16) v_34 v_36) h37) call fun v_38 h39 =>
cb v_38 (
arb (.val (t 5) h39) call fun v_40 h41 =>
arb (.of (ldn 4 h41 s_28) h41) call fun v_42 h43 =>
arb (.call F_subs_clone [v_42] h43) call fun v_44 h45 =>
arb (bslR 4 [(.int .i64 0), (.int .i64 0), (.int .i64 0), .nils] 1 h45 [(0, 4, v_44)]) call fun v_46 h47 =>
arb (appR 4 48 h47 v_40 v_46) call fun v_48 h49 =>
arb (.val v_48 h49) call fun out_50 h51 =>
k23 .normal (upd (upd (upd (upd (upd (upd (upd (upd (upd (upd (upd (upd (upd t 12 v_24) 13 v_26) 7 s_28) 14 v_32) 15 v_34) 16 v_36) 17 v_38) 18 v_40) 19 v_42) 20 v_44) 21 v_46) 22 v_48) 5 out_50) h51) (
k23 .normal (upd (upd (upd (upd (upd (upd (upd t 12 v_24) 13 v_26) 7 s_28) 14 v_32) 15 v_34) 16 v_36) 17 v_38) h39)

def L_subs_Of_1 (P : Program) (call : FuncId → List AVal → Heap → Res AVal) (fuel : Nat) (t : T) (h : Heap) : Res (Ex × T) :=
lt okK fun k =>
arb (.of (aBin P .lss 3 (.tmp 10) (.tmp 9) (t 10) (t 9)) h) call fun v_16 h17 =>
lt (sqK (J_subs_Of_2 P call fuel k) k) fun k52 =>
cb v_16 (
k52 .normal (upd t 11 v_16) h17) (
k52 (.exit 0) (upd t 11 v_16) h17)

def S_subs_Of (P : Program) (call : FuncId → List AVal → Heap → Res AVal) (fuel : Nat) (l_a0 client_a1 : AVal) (h : Heap) : Res AVal :=
lt (retK P [.tmp 4]) fun k =>
arb (.val .nils h) call fun v_0 h1 =>
arb (.val .nils h1) call fun out_2 h3 =>
lt (sqK (J_subs_Of_0 P call fuel k) k) fun k8 =>
arb (.val l_a0 h3) call fun v_9 h10 =>
arb (.of (lenL v_9) h10) call fun v_11 h12 =>
arb (.val (.int .i64 0) h12) call fun v_13 h14 =>
lt (blkK 0 k8) fun k15 =>
(loopN (L_subs_Of_1 P call fuel) fuel (upd (upd (upd (upd (upd (enterT [l_a0, client_a1]) 4 v_0) 5 out_2) 8 v_9) 9 v_11) 10 v_13) h14).bind (lpK k15)
theorem E_subs_Of (call : FuncId → List AVal → Heap → Res AVal) (fuel : Nat) (l_a0 client_a1 : AVal) (h : Heap) : bodyR Try.prog call fuel Try.f36 [l_a0, client_a1] h = S_subs_Of Try.prog call fuel l_a0 client_a1 h := by kernel_rfl
theorem R_subs_Of {X : XTab} (l_a0 client_a1 : AVal) {h : Heap} {Q : AVal → Heap → Prop} (hx : X F_subs_Of [l_a0, client_a1] = none) (q : Tells (fun m => S_subs_Of Try.prog (acallX Try.prog X m) m l_a0 client_a1 h) Q) :
    Tells (fun m => acallX Try.prog X m F_subs_Of [l_a0, client_a1] h) Q :=
  Tells.later (q.le fun m => (E_subs_Of (acallX Try.prog X m) m l_a0 client_a1 h) ▸ acallX_le Try.func36 hx m h)

/-! ### precentor/subs.Has -/
def J_subs_Has_0 (P : Program) (call : FuncId → List AVal → Heap → Res AVal) (fuel : Nat) (k : Kn (AVal)) (t : T) (h : Heap) : Res (AVal) :=
arb (.val (.bool false) h) call fun v_2 h3 =>
k .ret (upd t 6 v_2) h3

def J_subs_Has_3 (P : Program) (call : FuncId → List AVal → Heap → Res AVal) (fuel : Nat) (k : Kn (Ex × T)) (t : T) (h : Heap) : Res (Ex × T) :=
arb (.of (aBin P .add 3 (.tmp 11) (.const (.int .i64 1)) (t 11) (.int .i64 1)) h) call fun v_14 h15 =>
arb (.val v_14 h15) call fun v_16 h17 =>
k .normal (upd (upd t 25 v_14) 11 v_16) h17

def J_subs_Has_2 (P : Program) (call : FuncId → List AVal → Heap → Res AVal) (fuel : Nat) (k : Kn (Ex × T)) (t : T) (h : Heap) : Res (Ex × T) :=
lt (sqK (J_subs_Has_3 P call fuel k) k) fun k18 =>
lt (blkK 1 k18) fun k19 =>
arb (.of (ixsR 4 (t 9) (t 11)) h) call fun v_20 h21 =>
arb (.of (ldn 4 h21 v_20) h21) call fun v_22 h23 =>
arb (newR [(.int .i64 0), (.int .i64 0), (.int .i64 0), .nils] h23) call fun s_24 h25 =>
arb (stR 4 h25 s_24 v_22) call fun v_26 h27 =>
arb (.of (fadR 0 s_24) h27) call fun v_28 h29 =>
arb (.of (ld1 h29 v_28) h29) call fun v_30 h31 =>
arb (.val (t 1) h31) call fun v_32 h33 =>
arb (.of (aBin P .eql 3 (.tmp 16) (.tmp 17) v_30 v_32) h33) call fun v_34 h35 =>
arb (.val v_34 h35) call fun v_36 h37 =>
gd (wantB v_36 true) (fun c => arb (.of (fadR 2 s_24) h37) call c) h37 fun v_38 h39 =>
gd (wantB v_36 true) (fun c => arb (.of (ld1 h39 v_38) h39) call c) h39 fun v_40 h41 =>
gd (wantB v_36 true) (fun c => arb (.val (t 2) h41) call c) h41 fun v_42 h43 =>
gd (wantB v_36 true) (fun c => arb (.of (aBin P .eql 3 (.tmp 21) (.tmp 22) v_40 v_42) h43) call c) h43 fun v_44 h45 =>
arb (pkR v_36 v_44 (.bool false) h45) call fun v_46 h47 =>
cb v_46 (
arb (.val (.bool true) h47) call fun v_48 h49 =>
k19 .ret (upd (upd (upd (upd (upd (upd (upd (upd (upd (upd (upd (upd (upd (upd t 13 v_20) 14 v_22) 8 s_24) 15 v_28) 16 v_30) 17 v_32) 18 v_34) 19 v_36) 20 v_38) 21 v_40) 22 v_42) 23 v_44) 24 v_46) 6 v_48) h49) (
k19 .normal (upd (upd (upd (upd (upd (upd (upd (upd (upd (upd (upd (upd (upd t 13 v_20) 14 v_22) 8 s_24) 15 v_28) 16 v_30) 17 v_32) 18 v_34) 19 v_36) 20 v_38) 21 v_40) 22 v_42) 23 v_44) 24 v_46) h47)

def L_subs_Has_1 (P : Program) (call : FuncId → List AVal → Heap → Res AVal) (fuel : Nat) (t : T) (h : Heap) : Res (Ex × T) :=
lt okK fun k =>
arb (.of (aBin P .lss 3 (.tmp 11) (.tmp 10) (t 11) (t 10)) h) call fun v_12 h13 =>
lt (sqK (J_subs_Has_2 P call fuel k) k) fun k50 =>
cb v_12 (
k50 .normal (upd t 12 v_12) h13) (
k50 (.exit 0) (upd t 12 v_12) h13)

def S_subs_Has (P : Program) (call : FuncId → List AVal → Heap → Res AVal) (fuel : Nat) (l_a0 client_a1 num_a2 : AVal) (h : Heap) : Res AVal :=
lt (retK P [.tmp 6]) fun k =>
arb (.val (.bool false) h) call fun v_0 h1 =>
lt (sqK (J_subs_Has_0 P call fuel k) k) fun k4 =>
arb (.val l_a0 h1) call fun v_5 h6 =>
arb (.of (lenL v_5) h6) call fun v_7 h8 =>
arb (.val (.int .i64 0) h8) call fun v_9 h10 =>
lt (blkK 0 k4) fun k11 =>
(loopN (L_subs_Has_1 P call fuel) fuel (upd (upd (upd (upd (enterT [l_a0, client_a1, num_a2]) 6 v_0) 9 v_5) 10 v_7) 11 v_9) h10).bind (lpK k11)
theorem E_subs_Has (call : FuncId → List AVal → Heap → Res AVal) (fuel : Nat) (l_a0 client_a1 num_a2 : AVal) (h : Heap) : bodyR Try.prog call fuel Try.f37 [l_a0, client_a1, num_a2] h = S_subs_Has Try.prog call fuel l_a0 client_a1 num_a2 h := by kernel_rfl
theorem R_subs_Has {X : XTab} (l_a0 client_a1 num_a2 : AVal) {h : Heap} {Q : AVal → Heap → Prop} (hx : X F_subs_Has [l_a0, client_a1, num_a2] = none) (q : Tells (fun m => S_subs_Has Try.prog (acallX Try.prog X m) m l_a0 client_a1 num_a2 h) Q) :
    Tells (fun m => acallX Try.prog X m F_subs_Has [l_a0, client_a1, num_a2] h) Q :=
  Tells.later (q.le fun m => (E_subs_Has (acallX Try.prog X m) m l_a0 client_a1 num_a2 h) ▸ acallX_le Try.func37 hx m h)

/-! ### precentor/subs.clone -/

theorem C_subs_clone_0 (h : Heap) (a : AVal) : aLoad Try.prog h 28 a = ldn 4 h a := by kernel_rfl
def S_subs_clone (P : Program) (call : FuncId → List AVal → Heap → Res AVal) (fuel : Nat) (s_a0 : AVal) (h : Heap) : Res AVal :=
lt (retK P [.cell 2 28]) fun k =>
arb (boxR s_a0 h) call fun s_0 h1 =>
arb (newR [(.int .i64 0), (.int .i64 0), (.int .i64 0), .nils] h1) call fun v_2 h3 =>
arb (.of (fadR 3 s_0) h3) call fun v_4 h5 =>
arb (.of (ld1 h5 v_4) h5) call fun v_6 h7 =>
arb (.call F_filter_Copy [v_6] h7) call fun v_8 h9 =>
arb (.of (fadR 3 s_0) h9) call fun v_10 h11 =>
arb (stR 1 h11 v_10 v_8) call fun v_12 h13 =>
arb (.of (ldn 4 h13 s_0) h13) call fun v_14 h15 =>
arb (stR 4 h15 v_2 v_14) call fun v_16 h17 =>
k .ret (upd (upd (upd (upd (upd (upd (upd (enterT [s_a0]) 1 s_0) 2 v_2) 3 v_4) 4 v_6) 5 v_8) 6 v_10) 7 v_14) h17
theorem E_subs_clone (call : FuncId → List AVal → Heap → Res AVal) (fuel : Nat) (s_a0 : AVal) (h : Heap) : bodyR Try.prog call fuel Try.f48 [s_a0] h = S_subs_clone Try.prog call fuel s_a0 h := by kernel_rfl
theorem R_subs_clone {X : XTab} (s_a0 : AVal) {h : Heap} {Q : AVal → Heap → Prop} (hx : X F_subs_clone [s_a0] = none) (q : Tells (fun m => S_subs_clone Try.prog (acallX Try.prog X m) m s_a0 h) Q) :
    Tells (fun m => acallX Try.prog X m F_subs_clone [s_a0] h) Q :=
  Tells.later (q.le fun m => (E_subs_clone (acallX Try.prog X m) m s_a0 h) ▸ acallX_le Try.func48 hx m h)


end Go.Proofs.Ytbolfamaffbnnaa
