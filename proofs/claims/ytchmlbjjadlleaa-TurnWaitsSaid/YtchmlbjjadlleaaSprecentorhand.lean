/-
  Functions of precentorhand in the form of YtchmlbjjadlleaaABS (printed by a program of ours, gen.lean).
-/
import Derived.Test.YtchmlbjjadlleaaSIds
set_option linter.unusedVariables false
namespace Go.Proofs.Ytchmlbjjadlleaa
open Go.Ab
/-! ### (*precentor/precentorhand.Feed).Next -/
def J_precentorhand_Feed_Next_0 (P : Program) (call : FuncId → List AVal → Heap → Res AVal) (fuel : Nat) (k : Kn (AVal)) (t : T) (h : Heap) : Res (AVal) :=
obv (.val (t 0) h) fun v_2 =>
obv (nckR v_2 h) fun v_3 =>
obv (.of (fadR 0 v_3) h) fun v_4 =>
obv (.of (ld1 h v_4) h) fun v_5 =>
obv (.val (t 0) h) fun v_6 =>
obv (nckR v_6 h) fun v_7 =>
obv (.of (fadR 1 v_7) h) fun v_8 =>
obv (.of (ld1 h v_8) h) fun v_9 =>
obv (.val (t 0) h) fun v_10 =>
obv (nckR v_10 h) fun v_11 =>
obv (.of (fadR 0 v_11) h) fun v_12 =>
obv (.of (ld1 h v_12) h) fun v_13 =>
obv (.of (lenL v_13) h) fun v_14 =>
obv (.of (aBin P .rem 3 (.tmp 19) (.tmp 24) v_9 v_14) h) fun v_15 =>
obv (.of (ixsR 1 v_5 v_15) h) fun v_16 =>
obv (.of (ld1 h v_16) h) fun v_17 =>
obv (.val (t 0) h) fun v_18 =>
obv (nckR v_18 h) fun v_19 =>
obv (.of (fadR 1 v_19) h) fun v_20 =>
obv (.of (ld1 h v_20) h) fun v_21 =>
obv (.val (t 0) h) fun v_22 =>
obv (nckR v_22 h) fun v_23 =>
obv (.of (fadR 0 v_23) h) fun v_24 =>
obv (.of (ld1 h v_24) h) fun v_25 =>
obv (.of (lenL v_25) h) fun v_26 =>
obv (.of (aBin P .quo 3 (.tmp 31) (.tmp 36) v_21 v_26) h) fun v_27 =>
obv (.of (aBin P .add 3 (.const (.int .i64 1)) (.tmp 37) (.int .i64 1) v_27) h) fun v_28 =>
obv (.of (aBin P .quo 3 (.tmp 27) (.tmp 38) v_17 v_28) h) fun v_29 =>
obv (.val (t 0) h) fun v_30 =>
obv (nckR v_30 h) fun v_31 =>
obv (.of (fadR 1 v_31) h) fun v_32 =>
obv (.of (ld1 h v_32) h) fun v_33 =>
obv (.val (t 0) h) fun v_34 =>
obv (nckR v_34 h) fun v_35 =>
obv (.of (fadR 0 v_35) h) fun v_36 =>
obv (.of (ld1 h v_36) h) fun v_37 =>
obv (.of (lenL v_37) h) fun v_38 =>
obv (.of (aBin P .quo 3 (.tmp 43) (.tmp 48) v_33 v_38) h) fun v_39 =>
obv (.of (aBin P .add 3 (.tmp 39) (.tmp 49) v_29 v_39) h) fun v_40 =>
obv (.val v_40 h) fun k_41 =>
arb (.val (t 0) h) call fun v_42 h43 =>
arb (nckR v_42 h43) call fun v_44 h45 =>
arb (.of (fadR 1 v_44) h45) call fun v_46 h47 =>
arb (.of (ld1 h47 v_46) h47) call fun v_48 h49 =>
arb (.of (aBin P .add 3 (.tmp 54) (.const (.int .i64 1)) v_48 (.int .i64 1)) h49) call fun v_50 h51 =>
arb (nckR v_42 h51) call fun v_52 h53 =>
arb (.of (fadR 1 v_52) h53) call fun v_54 h55 =>
arb (stR 1 h55 v_54 v_50) call fun v_56 h57 =>
arb (.val k_41 h57) call fun v_58 h59 =>
arb (.val (t 1) h59) call fun v_60 h61 =>
arb (.call F_precentorhand_Pick [v_58, v_60] h61) call fun v_62 h63 =>
arb (.val v_62 h63) call fun v_64 h65 =>
k .ret (upd (upd (upd (upd (upd (upd (upd (upd (upd (upd (upd (upd (upd (upd (upd (upd (upd (upd (upd (upd (upd (upd (upd (upd (upd (upd (upd (upd (upd (upd (upd (upd (upd (upd (upd (upd (upd (upd (upd (upd (upd (upd (upd (upd (upd (upd (upd (upd (upd (upd (upd t 12 v_2) 13 v_3) 14 v_4) 15 v_5) 16 v_6) 17 v_7) 18 v_8) 19 v_9) 20 v_10) 21 v_11) 22 v_12) 23 v_13) 24 v_14) 25 v_15) 26 v_16) 27 v_17) 28 v_18) 29 v_19) 30 v_20) 31 v_21) 32 v_22) 33 v_23) 34 v_24) 35 v_25) 36 v_26) 37 v_27) 38 v_28) 39 v_29) 40 v_30) 41 v_31) 42 v_32) 43 v_33) 44 v_34) 45 v_35) 46 v_36) 47 v_37) 48 v_38) 49 v_39) 50 v_40) 5 k_41) 51 v_42) 52 v_44) 53 v_46) 54 v_48) 55 v_50) 56 v_52) 57 v_54) 58 v_58) 59 v_60) 60 v_62) 4 v_64) h65

def S_precentorhand_Feed_Next (P : Program) (call : FuncId → List AVal → Heap → Res AVal) (fuel : Nat) (f_a0 n_a1 : AVal) (h : Heap) : Res AVal :=
lt (retK P [.tmp 4]) fun k =>
arb (.val (.int .i64 0) h) call fun v_0 h1 =>
lt (sqK (J_precentorhand_Feed_Next_0 P call fuel k) k) fun k66 =>
arb (.val f_a0 h1) call fun v_67 h68 =>
arb (nckR v_67 h68) call fun v_69 h70 =>
arb (.of (fadR 0 v_69) h70) call fun v_71 h72 =>
arb (.of (ld1 h72 v_71) h72) call fun v_73 h74 =>
arb (.of (lenL v_73) h74) call fun v_75 h76 =>
arb (.of (aBin P .eql 3 (.tmp 10) (.const (.int .i64 0)) v_75 (.int .i64 0)) h76) call fun v_77 h78 =>
cb v_77 (
arb (.val (.int .i64 0) h78) call fun v_79 h80 =>
k66 .ret (upd (upd (upd (upd (upd (upd (upd (upd (enterT [f_a0, n_a1]) 4 v_0) 6 v_67) 7 v_69) 8 v_71) 9 v_73) 10 v_75) 11 v_77) 4 v_79) h80) (
k66 .normal (upd (upd (upd (upd (upd (upd (upd (enterT [f_a0, n_a1]) 4 v_0) 6 v_67) 7 v_69) 8 v_71) 9 v_73) 10 v_75) 11 v_77) h78)
theorem E_precentorhand_Feed_Next (call : FuncId → List AVal → Heap → Res AVal) (fuel : Nat) (f_a0 n_a1 : AVal) (h : Heap) : bodyR Try.prog call fuel Try.f18 [f_a0, n_a1] h = S_precentorhand_Feed_Next Try.prog call fuel f_a0 n_a1 h := by kernel_rfl
theorem R_precentorhand_Feed_Next {X : XTab} (f_a0 n_a1 : AVal) {h : Heap} {Q : AVal → Heap → Prop} (hx : X F_precentorhand_Feed_Next [f_a0, n_a1] = none) (q : Tells (fun m => S_precentorhand_Feed_Next Try.prog (acallX Try.prog X m) m f_a0 n_a1 h) Q) :
    Tells (fun m => acallX Try.prog X m F_precentorhand_Feed_Next [f_a0, n_a1] h) Q :=
  Tells.later (q.le fun m => (E_precentorhand_Feed_Next (acallX Try.prog X m) m f_a0 n_a1 h) ▸ acallX_le Try.func18 hx m h)

/-! ### (*precentor/precentorhand.Feed).Tree -/
def J_precentorhand_Feed_Tree_0 (P : Program) (call : FuncId → List AVal → Heap → Res AVal) (fuel : Nat) (k : Kn (AVal)) (t : T) (h : Heap) : Res (AVal) :=
arb (.val (t 5) h) call fun v_4 h5 =>
arb (.val v_4 h5) call fun v_6 h7 =>
k .ret (upd (upd t 22 v_4) 4 v_6) h7

def J_precentorhand_Feed_Tree_3 (P : Program) (call : FuncId → List AVal → Heap → Res AVal) (fuel : Nat) (k : Kn (Ex × T)) (t : T) (h : Heap) : Res (Ex × T) :=
arb (.val (t 6) h) call fun v_18 h19 =>
arb (.of (aBin P .sub 3 (.tmp 12) (.const (.int .i64 1)) v_18 (.int .i64 1)) h19) call fun v_20 h21 =>
arb (.val v_20 h21) call fun n_22 h23 =>
k .normal (upd (upd (upd t 12 v_18) 13 v_20) 6 n_22) h23

def J_precentorhand_Feed_Tree_2 (P : Program) (call : FuncId → List AVal → Heap → Res AVal) (fuel : Nat) (k : Kn (Ex × T)) (t : T) (h : Heap) : Res (Ex × T) :=
lt (sqK (J_precentorhand_Feed_Tree_3 P call fuel k) k) fun k24 =>
lt (blkK 1 k24) fun k25 =>
arb (.val (t 5) h) call fun v_26 h27 =>
arb (.val (t 0) h27) call fun v_28 h29 =>
arb (.val (t 5) h29) call fun v_30 h31 =>
arb (.of (lenL v_30) h31) call fun v_32 h33 =>
arb (.of (aBin P .add 3 (.tmp 17) (.const (.int .i64 1)) v_32 (.int .i64 1)) h33) call fun v_34 h35 =>
arb (.call F_precentorhand_Feed_Next [v_28, v_34] h35) call fun v_36 h37 =>
arb (bslR 1 [(.int .i64 0)] 1 h37 [(0, 1, v_36)]) call fun v_38 h39 =>
arb (appR 1 8 h39 v_26 v_38) call fun v_40 h41 =>
arb (.val v_40 h41) call fun p_42 h43 =>
k25 .normal (upd (upd (upd (upd (upd (upd (upd (upd (upd t 14 v_26) 15 v_28) 16 v_30) 17 v_32) 18 v_34) 19 v_36) 20 v_38) 21 v_40) 5 p_42) h43

def L_precentorhand_Feed_Tree_1 (P : Program) (call : FuncId → List AVal → Heap → Res AVal) (fuel : Nat) (t : T) (h : Heap) : Res (Ex × T) :=
lt okK fun k =>
lt (sqK (J_precentorhand_Feed_Tree_2 P call fuel k) k) fun k44 =>
arb (.val (t 6) h) call fun v_45 h46 =>
arb (.of (aBin P .gtr 3 (.tmp 10) (.const (.int .i64 0)) v_45 (.int .i64 0)) h46) call fun v_47 h48 =>
cb v_47 (
k44 .normal (upd (upd t 10 v_45) 11 v_47) h48) (
k44 (.exit 0) (upd (upd t 10 v_45) 11 v_47) h48)

def S_precentorhand_Feed_Tree (P : Program) (call : FuncId → List AVal → Heap → Res AVal) (fuel : Nat) (f_a0 most_a1 : AVal) (h : Heap) : Res AVal :=
lt (retK P [.tmp 4]) fun k =>
arb (.val .nils h) call fun v_0 h1 =>
arb (.val .nils h1) call fun p_2 h3 =>
lt (sqK (J_precentorhand_Feed_Tree_0 P call fuel k) k) fun k8 =>
arb (.val f_a0 h3) call fun v_9 h10 =>
arb (.val most_a1 h10) call fun v_11 h12 =>
arb (.call F_precentorhand_Feed_Next [v_9, v_11] h12) call fun v_13 h14 =>
arb (.val v_13 h14) call fun n_15 h16 =>
lt (blkK 0 k8) fun k17 =>
(loopN (L_precentorhand_Feed_Tree_1 P call fuel) fuel (upd (upd (upd (upd (upd (upd (enterT [f_a0, most_a1]) 4 v_0) 5 p_2) 7 v_9) 8 v_11) 9 v_13) 6 n_15) h16).bind (lpK k17)
theorem E_precentorhand_Feed_Tree (call : FuncId → List AVal → Heap → Res AVal) (fuel : Nat) (f_a0 most_a1 : AVal) (h : Heap) : bodyR Try.prog call fuel Try.f19 [f_a0, most_a1] h = S_precentorhand_Feed_Tree Try.prog call fuel f_a0 most_a1 h := by kernel_rfl
theorem R_precentorhand_Feed_Tree {X : XTab} (f_a0 most_a1 : AVal) {h : Heap} {Q : AVal → Heap → Prop} (hx : X F_precentorhand_Feed_Tree [f_a0, most_a1] = none) (q : Tells (fun m => S_precentorhand_Feed_Tree Try.prog (acallX Try.prog X m) m f_a0 most_a1 h) Q) :
    Tells (fun m => acallX Try.prog X m F_precentorhand_Feed_Tree [f_a0, most_a1] h) Q :=
  Tells.later (q.le fun m => (E_precentorhand_Feed_Tree (acallX Try.prog X m) m f_a0 most_a1 h) ▸ acallX_le Try.func19 hx m h)

/-! ### precentor/precentorhand.Pick -/
def J_precentorhand_Pick_1 (P : Program) (call : FuncId → List AVal → Heap → Res AVal) (fuel : Nat) (k : Kn (AVal)) (t : T) (h : Heap) : Res (AVal) :=
arb (.val (t 5) h) call fun v_10 h11 =>
arb (.val v_10 h11) call fun v_12 h13 =>
k .ret (upd (upd t 16 v_10) 4 v_12) h13

def J_precentorhand_Pick_0 (P : Program) (call : FuncId → List AVal → Heap → Res AVal) (fuel : Nat) (k : Kn (AVal)) (t : T) (h : Heap) : Res (AVal) :=
arb (.val (t 0) h) call fun v_2 h3 =>
arb (.val (t 1) h3) call fun v_4 h5 =>
arb (.of (aBin P .rem 3 (.tmp 8) (.tmp 9) v_2 v_4) h5) call fun v_6 h7 =>
arb (.val v_6 h7) call fun k_8 h9 =>
lt (sqK (J_precentorhand_Pick_1 P call fuel k) k) fun k14 =>
arb (.val k_8 h9) call fun v_15 h16 =>
arb (.of (aBin P .lss 3 (.tmp 11) (.const (.int .i64 0)) v_15 (.int .i64 0)) h16) call fun v_17 h18 =>
cb v_17 (
arb (.val k_8 h18) call fun v_19 h20 =>
arb (.val (t 1) h20) call fun v_21 h22 =>
arb (.of (aBin P .add 3 (.tmp 13) (.tmp 14) v_19 v_21) h22) call fun v_23 h24 =>
arb (.val v_23 h24) call fun k_25 h26 =>
k14 .normal (upd (upd (upd (upd (upd (upd (upd (upd (upd (upd t 8 v_2) 9 v_4) 10 v_6) 5 k_8) 11 v_15) 12 v_17) 13 v_19) 14 v_21) 15 v_23) 5 k_25) h26) (
k14 .normal (upd (upd (upd (upd (upd (upd t 8 v_2) 9 v_4) 10 v_6) 5 k_8) 11 v_15) 12 v_17) h18)

def S_precentorhand_Pick (P : Program) (call : FuncId → List AVal → Heap → Res AVal) (fuel : Nat) (n_a0 m_a1 : AVal) (h : Heap) : Res AVal :=
lt (retK P [.tmp 4]) fun k =>
arb (.val (.int .i64 0) h) call fun v_0 h1 =>
lt (sqK (J_precentorhand_Pick_0 P call fuel k) k) fun k27 =>
arb (.val m_a1 h1) call fun v_28 h29 =>
arb (.of (aBin P .lss 3 (.tmp 6) (.const (.int .i64 1)) v_28 (.int .i64 1)) h29) call fun v_30 h31 =>
cb v_30 (
arb (.val (.int .i64 0) h31) call fun v_32 h33 =>
k27 .ret (upd (upd (upd (upd (enterT [n_a0, m_a1]) 4 v_0) 6 v_28) 7 v_30) 4 v_32) h33) (
k27 .normal (upd (upd (upd (enterT [n_a0, m_a1]) 4 v_0) 6 v_28) 7 v_30) h31)
theorem E_precentorhand_Pick (call : FuncId → List AVal → Heap → Res AVal) (fuel : Nat) (n_a0 m_a1 : AVal) (h : Heap) : bodyR Try.prog call fuel Try.f20 [n_a0, m_a1] h = S_precentorhand_Pick Try.prog call fuel n_a0 m_a1 h := by kernel_rfl
theorem R_precentorhand_Pick {X : XTab} (n_a0 m_a1 : AVal) {h : Heap} {Q : AVal → Heap → Prop} (hx : X F_precentorhand_Pick [n_a0, m_a1] = none) (q : Tells (fun m => S_precentorhand_Pick Try.prog (acallX Try.prog X m) m n_a0 m_a1 h) Q) :
    Tells (fun m => acallX Try.prog X m F_precentorhand_Pick [n_a0, m_a1] h) Q :=
  Tells.later (q.le fun m => (E_precentorhand_Pick (acallX Try.prog X m) m n_a0 m_a1 h) ▸ acallX_le Try.func20 hx m h)


end Go.Proofs.Ytchmlbjjadlleaa
