/-
  Functions of bag in the form of YthepnokmoaipfaaABS (printed by a program of ours, gen.lean).
-/
import Derived.Test.YthepnokmoaipfaaSIds
set_option linter.unusedVariables false
namespace Go.Proofs.Ythepnokmoaipfaa
open Go.Ab
/-! ### (*precentor/bag.Bag).Put -/
def J_bag_Bag_Put_0 (P : Program) (call : FuncId → List AVal → Heap → Res AVal) (fuel : Nat) (k : Kn (AVal)) (t : T) (h : Heap) : Res (AVal) :=
arb (.val (t 5) h) call fun v_4 h5 =>
arb (.val v_4 h5) call fun v_6 h7 =>
k .ret (upd (upd t 34 v_4) 4 v_6) h7

def J_bag_Bag_Put_3 (P : Program) (call : FuncId → List AVal → Heap → Res AVal) (fuel : Nat) (k : Kn (Ex × T)) (t : T) (h : Heap) : Res (Ex × T) :=
arb (.of (aBin P .add 3 (.tmp 10) (.const (.int .i64 1)) (t 10) (.int .i64 1)) h) call fun v_18 h19 =>
arb (.val v_18 h19) call fun v_20 h21 =>
k .normal (upd (upd t 33 v_18) 10 v_20) h21

def J_bag_Bag_Put_2 (P : Program) (call : FuncId → List AVal → Heap → Res AVal) (fuel : Nat) (k : Kn (Ex × T)) (t : T) (h : Heap) : Res (Ex × T) :=
lt (sqK (J_bag_Bag_Put_3 P call fuel k) k) fun k22 =>
lt (blkK 1 k22) fun k23 =>
arb (.of (ixsR 3 (t 8) (t 10)) h) call fun v_24 h25 =>
arb (.of (ldn 3 h25 v_24) h25) call fun v_26 h27 =>
arb (newR [(.int .i64 0), (.int .i64 0), .nils] h27) call fun d_28 h29 =>
arb (stR 3 h29 d_28 v_26) call fun v_30 h31 =>
arb (.val (t 0) h31) call fun v_32 h33 =>
arb (nckR v_32 h33) call fun v_34 h35 =>
arb (.of (fadR 0 v_34) h35) call fun v_36 h37 =>
arb (.of (ld1 h37 v_36) h37) call fun v_38 h39 =>
arb (.of (lenL v_38) h39) call fun v_40 h41 =>
arb (.of (aBin P .lss 3 (.tmp 18) (.const (.int .i64 600)) v_40 (.int .i64 600)) h41) call fun v_42 h43 =>
cb v_42 (
obv (.val (t 0) h43) fun v_44 =>
obv (.val (t 0) h43) fun v_46 =>
obv (nckR v_46 h43) fun v_48 =>
obv (.of (fadR 0 v_48) h43) fun v_50 =>
obv (.of (ld1 h43 v_50) h43) fun v_52 => ifb true <|
obv (.of (ldn 3 h43 d_28) h43) fun v_54 => ifb true <|
arbE (.call F_bag_clone [v_54] h43) call fun v_56 h57 => lt h57 fun g57 => ifb (true && (isV v_52 (arVal (.of (ld1 g57 v_50) g57)) && true)) <|
arbV (bslR 3 [(.int .i64 0), (.int .i64 0), .nils] 1 g57 [(0, 3, v_56)]) fun v_58 h59 =>
arbE (appR 3 40 h59 v_52 v_58) call fun v_60 h61 => lt h61 fun g61 => ifb (true && true) <|
obv (nckR v_44 g61) fun v_62 =>
obv (.of (fadR 0 v_62) g61) fun v_64 =>
arbE (stR 1 g61 v_64 v_60) call fun v_66 h67 => lt h67 fun g67 => ifb (true && true) <|
arb (.val (t 5) g67) call fun v_68 h69 =>
arb (.of (aBin P .add 3 (.tmp 31) (.const (.int .i64 1)) v_68 (.int .i64 1)) h69) call fun v_70 h71 =>
arb (.val v_70 h71) call fun n_72 h73 =>
k23 .normal (upd (upd (upd (upd (upd (upd (upd (upd (upd (upd (upd (upd (upd (upd (upd (upd (upd (upd (upd (upd (upd (upd (upd t 12 v_24) 13 v_26) 7 d_28) 14 v_32) 15 v_34) 16 v_36) 17 v_38) 18 v_40) 19 v_42) 20 v_44) 21 v_46) 22 v_48) 23 v_50) 24 v_52) 25 v_54) 26 v_56) 27 v_58) 28 v_60) 29 v_62) 30 v_64) 31 v_68) 32 v_70) 5 n_72) h73) (
k23 .normal (upd (upd (upd (upd (upd (upd (upd (upd (upd t 12 v_24) 13 v_26) 7 d_28) 14 v_32) 15 v_34) 16 v_36) 17 v_38) 18 v_40) 19 v_42) h43)

def L_bag_Bag_Put_1 (P : Program) (call : FuncId → List AVal → Heap → Res AVal) (fuel : Nat) (t : T) (h : Heap) : Res (Ex × T) :=
lt okK fun k =>
arb (.of (aBin P .lss 3 (.tmp 10) (.tmp 9) (t 10) (t 9)) h) call fun v_16 h17 =>
lt (sqK (J_bag_Bag_Put_2 P call fuel k) k) fun k74 =>
cb v_16 (
k74 .normal (upd t 11 v_16) h17) (
k74 (.exit 0) (upd t 11 v_16) h17)

def S_bag_Bag_Put (P : Program) (call : FuncId → List AVal → Heap → Res AVal) (fuel : Nat) (b_a0 l_a1 : AVal) (h : Heap) : Res AVal :=
lt (retK P [.tmp 4]) fun k =>
arb (.val (.int .i64 0) h) call fun v_0 h1 =>
arb (.val (.int .i64 0) h1) call fun n_2 h3 =>
lt (sqK (J_bag_Bag_Put_0 P call fuel k) k) fun k8 =>
arb (.val l_a1 h3) call fun v_9 h10 =>
arb (.of (lenL v_9) h10) call fun v_11 h12 =>
arb (.val (.int .i64 0) h12) call fun v_13 h14 =>
lt (blkK 0 k8) fun k15 =>
(loopN (L_bag_Bag_Put_1 P call fuel) fuel (upd (upd (upd (upd (upd (enterT [b_a0, l_a1]) 4 v_0) 5 n_2) 8 v_9) 9 v_11) 10 v_13) h14).bind (lpK k15)
theorem E_bag_Bag_Put (call : FuncId → List AVal → Heap → Res AVal) (fuel : Nat) (b_a0 l_a1 : AVal) (h : Heap) : bodyR Try.prog call fuel Try.f7 [b_a0, l_a1] h = S_bag_Bag_Put Try.prog call fuel b_a0 l_a1 h := by kernel_rfl
theorem R_bag_Bag_Put {X : XTab} (b_a0 l_a1 : AVal) {h : Heap} {Q : AVal → Heap → Prop} (hx : X F_bag_Bag_Put [b_a0, l_a1] = none) (q : Tells (fun m => S_bag_Bag_Put Try.prog (acallX Try.prog X m) m b_a0 l_a1 h) Q) :
    Tells (fun m => acallX Try.prog X m F_bag_Bag_Put [b_a0, l_a1] h) Q :=
  Tells.later (q.le fun m => (E_bag_Bag_Put (acallX Try.prog X m) m b_a0 l_a1 h) ▸ acallX_le Try.func7 hx m h)

/-! ### (*precentor/bag.Bag).Twice -/

def S_bag_Bag_Twice (P : Program) (call : FuncId → List AVal → Heap → Res AVal) (fuel : Nat) (b_a0 k_a1 : AVal) (h : Heap) : Res AVal :=
lt (retK P [.tmp 4]) fun k =>
arb (.val (.bool false) h) call fun v_0 h1 =>
arb (.val b_a0 h1) call fun v_2 h3 =>
arb (.val k_a1 h3) call fun v_4 h5 =>
arb (.call F_bag_Bag_is [v_2, v_4] h5) call fun v_6 h7 =>
arb (.val v_6 h7) call fun v_8 h9 =>
gd (wantB v_8 true) (fun c => arb (.val b_a0 h9) call c) h9 fun v_10 h11 =>
gd (wantB v_8 true) (fun c => arb (.val b_a0 h11) call c) h11 fun v_12 h13 =>
gd (wantB v_8 true) (fun c => arb (nckR v_12 h13) call c) h13 fun v_14 h15 =>
gd (wantB v_8 true) (fun c => arb (.of (fadR 0 v_14) h15) call c) h15 fun v_16 h17 =>
gd (wantB v_8 true) (fun c => arb (.of (ld1 h17 v_16) h17) call c) h17 fun v_18 h19 =>
gd (wantB v_8 true) (fun c => arb (.val k_a1 h19) call c) h19 fun v_20 h21 =>
gd (wantB v_8 true) (fun c => arb (.of (ixsR 3 v_18 v_20) h21) call c) h21 fun v_22 h23 =>
gd (wantB v_8 true) (fun c => arb (.of (ldn 3 h23 v_22) h23) call c) h23 fun v_24 h25 =>
gd (wantB v_8 true) (fun c => arb (bslR 3 [(.int .i64 0), (.int .i64 0), .nils] 1 h25 [(0, 3, v_24)]) call c) h25 fun v_26 h27 =>
gd (wantB v_8 true) (fun c => arb (.call F_bag_Bag_Put [v_10, v_26] h27) call c) h27 fun v_28 h29 =>
gd (wantB v_8 true) (fun c => arb (.of (aBin P .eql 3 (.tmp 18) (.const (.int .i64 1)) v_28 (.int .i64 1)) h29) call c) h29 fun v_30 h31 =>
arb (pkR v_8 v_30 (.bool false) h31) call fun v_32 h33 =>
arb (.val v_32 h33) call fun v_34 h35 =>
k .ret (upd (upd (upd (upd (upd (upd (upd (upd (upd (upd (upd (upd (upd (upd (upd (upd (upd (upd (enterT [b_a0, k_a1]) 4 v_0) 5 v_2) 6 v_4) 7 v_6) 8 v_8) 9 v_10) 10 v_12) 11 v_14) 12 v_16) 13 v_18) 14 v_20) 15 v_22) 16 v_24) 17 v_26) 18 v_28) 19 v_30) 20 v_32) 4 v_34) h35
theorem E_bag_Bag_Twice (call : FuncId → List AVal → Heap → Res AVal) (fuel : Nat) (b_a0 k_a1 : AVal) (h : Heap) : bodyR Try.prog call fuel Try.f9 [b_a0, k_a1] h = S_bag_Bag_Twice Try.prog call fuel b_a0 k_a1 h := by kernel_rfl
theorem R_bag_Bag_Twice {X : XTab} (b_a0 k_a1 : AVal) {h : Heap} {Q : AVal → Heap → Prop} (hx : X F_bag_Bag_Twice [b_a0, k_a1] = none) (q : Tells (fun m => S_bag_Bag_Twice Try.prog (acallX Try.prog X m) m b_a0 k_a1 h) Q) :
    Tells (fun m => acallX Try.prog X m F_bag_Bag_Twice [b_a0, k_a1] h) Q :=
  Tells.later (q.le fun m => (E_bag_Bag_Twice (acallX Try.prog X m) m b_a0 k_a1 h) ▸ acallX_le Try.func9 hx m h)

/-! ### (*precentor/bag.Bag).Take -/
def J_bag_Bag_Take_0 (P : Program) (call : FuncId → List AVal → Heap → Res AVal) (fuel : Nat) (k : Kn (AVal)) (t : T) (h : Heap) : Res (AVal) :=
arb (.val (t 0) h) call fun v_4 h5 =>
arb (nckR v_4 h5) call fun v_6 h7 =>
arb (.of (fadR 0 v_6) h7) call fun v_8 h9 =>
arb (.of (ld1 h9 v_8) h9) call fun v_10 h11 =>
arb (.val (t 1) h11) call fun v_12 h13 =>
arb (.of (ixsR 3 v_10 v_12) h13) call fun v_14 h15 =>
arb (.of (ldn 3 h15 v_14) h15) call fun v_16 h17 =>
arb (newR [(.int .i64 0), (.int .i64 0), .nils] h17) call fun d_18 h19 =>
arb (stR 3 h19 d_18 v_16) call fun v_20 h21 =>
obv (.val (t 0) h21) fun v_22 =>
obv (.val (t 0) h21) fun v_24 =>
obv (nckR v_24 h21) fun v_26 =>
obv (.of (fadR 0 v_26) h21) fun v_28 =>
obv (.of (ld1 h21 v_28) h21) fun v_30 => ifb true <|
obv (.val (t 1) h21) fun v_32 =>
obv (.val (t 1) h21) fun v_34 =>
obv (.of (slcR 3 v_30 none (some v_32) (some v_34)) h21) fun v_36 =>
obv (.val (t 0) h21) fun v_38 =>
obv (nckR v_38 h21) fun v_40 =>
obv (.of (fadR 0 v_40) h21) fun v_42 =>
obv (.of (ld1 h21 v_42) h21) fun v_44 => ifb true <|
obv (.val (t 1) h21) fun v_46 =>
obv (.of (aBin P .add 3 (.tmp 31) (.const (.int .i64 1)) v_46 (.int .i64 1)) h21) fun v_48 =>
obv (.of (slcR 3 v_44 (some v_48) none none) h21) fun v_50 =>
arbE (appR 3 40 h21 v_36 v_50) call fun v_52 h53 => lt h53 fun g53 => ifb (true && true) <|
obv (nckR v_22 g53) fun v_54 =>
obv (.of (fadR 0 v_54) g53) fun v_56 =>
arbE (stR 1 g53 v_56 v_52) call fun v_58 h59 => lt h59 fun g59 => ifb (true && true) <|
arb (.of (ldn 3 g59 d_18) g59) call fun v_60 h61 =>
arb (stR 3 h61 (t 4) v_60) call fun v_62 h63 =>
arb (.val (.bool true) h63) call fun v_64 h65 =>
k .ret (upd (upd (upd (upd (upd (upd (upd (upd (upd (upd (upd (upd (upd (upd (upd (upd (upd (upd (upd (upd (upd (upd (upd (upd (upd (upd (upd (upd t 12 v_4) 13 v_6) 14 v_8) 15 v_10) 16 v_12) 17 v_14) 18 v_16) 6 d_18) 19 v_22) 20 v_24) 21 v_26) 22 v_28) 23 v_30) 24 v_32) 25 v_34) 26 v_36) 27 v_38) 28 v_40) 29 v_42) 30 v_44) 31 v_46) 32 v_48) 33 v_50) 34 v_52) 35 v_54) 36 v_56) 37 v_60) 5 v_64) h65

theorem C_bag_Bag_Take_0 (h : Heap) (a : AVal) : aLoad Try.prog h 28 a = ldn 3 h a := by kernel_rfl
def S_bag_Bag_Take (P : Program) (call : FuncId → List AVal → Heap → Res AVal) (fuel : Nat) (b_a0 k_a1 : AVal) (h : Heap) : Res AVal :=
lt (retK P [.cell 4 28, .tmp 5]) fun k =>
arb (newR [(.int .i64 0), (.int .i64 0), .nils] h) call fun v_0 h1 =>
arb (.val (.bool false) h1) call fun v_2 h3 =>
lt (sqK (J_bag_Bag_Take_0 P call fuel k) k) fun k66 =>
arb (.val b_a0 h3) call fun v_67 h68 =>
arb (.val k_a1 h68) call fun v_69 h70 =>
arb (.call F_bag_Bag_is [v_67, v_69] h70) call fun v_71 h72 =>
arb (.of (aUn P .not v_71) h72) call fun v_73 h74 =>
cb v_73 (
arb (.of (bldR [(.int .i64 0), (.int .i64 0), .nils] []) h74) call fun v_75 h76 =>
arb (stR 3 h76 v_0 v_75) call fun v_77 h78 =>
arb (.val (.bool false) h78) call fun v_79 h80 =>
k66 .ret (upd (upd (upd (upd (upd (upd (upd (upd (enterT [b_a0, k_a1]) 4 v_0) 5 v_2) 7 v_67) 8 v_69) 9 v_71) 10 v_73) 11 v_75) 5 v_79) h80) (
k66 .normal (upd (upd (upd (upd (upd (upd (enterT [b_a0, k_a1]) 4 v_0) 5 v_2) 7 v_67) 8 v_69) 9 v_71) 10 v_73) h74)
theorem E_bag_Bag_Take (call : FuncId → List AVal → Heap → Res AVal) (fuel : Nat) (b_a0 k_a1 : AVal) (h : Heap) : bodyR Try.prog call fuel Try.f10 [b_a0, k_a1] h = S_bag_Bag_Take Try.prog call fuel b_a0 k_a1 h := by kernel_rfl
theorem R_bag_Bag_Take {X : XTab} (b_a0 k_a1 : AVal) {h : Heap} {Q : AVal → Heap → Prop} (hx : X F_bag_Bag_Take [b_a0, k_a1] = none) (q : Tells (fun m => S_bag_Bag_Take Try.prog (acallX Try.prog X m) m b_a0 k_a1 h) Q) :
    Tells (fun m => acallX Try.prog X m F_bag_Bag_Take [b_a0, k_a1] h) Q :=
  Tells.later (q.le fun m => (E_bag_Bag_Take (acallX Try.prog X m) m b_a0 k_a1 h) ▸ acallX_le Try.func10 hx m h)

/-! ### (*precentor/bag.Bag).All -/
def J_bag_Bag_All_0 (P : Program) (call : FuncId → List AVal → Heap → Res AVal) (fuel : Nat) (k : Kn (AVal)) (t : T) (h : Heap) : Res (AVal) :=
arb (.val (t 3) h) call fun v_4 h5 =>
arb (.val v_4 h5) call fun v_6 h7 =>
k .ret (upd (upd t 21 v_4) 2 v_6) h7

def J_bag_Bag_All_3 (P : Program) (call : FuncId → List AVal → Heap → Res AVal) (fuel : Nat) (k : Kn (Ex × T)) (t : T) (h : Heap) : Res (Ex × T) :=
arb (.of (aBin P .add 3 (.tmp 11) (.const (.int .i64 1)) (t 11) (.int .i64 1)) h) call fun v_24 h25 =>
arb (.val v_24 h25) call fun v_26 h27 =>
k .normal (upd (upd t 20 v_24) 11 v_26) h27

def J_bag_Bag_All_2 (P : Program) (call : FuncId → List AVal → Heap → Res AVal) (fuel : Nat) (k : Kn (Ex × T)) (t : T) (h : Heap) : Res (Ex × T) :=
lt (sqK (J_bag_Bag_All_3 P call fuel k) k) fun k28 =>
lt (blkK 1 k28) fun k29 =>
arb (.of (ixsR 3 (t 9) (t 11)) h) call fun v_30 h31 =>
arb (.of (ldn 3 h31 v_30) h31) call fun v_32 h33 =>
arb (newR [(.int .i64 0), (.int .i64 0), .nils] h33) call fun d_34 h35 =>
arb (stR 3 h35 d_34 v_32) call fun v_36 h37 =>
arb (.val (t 3) h37) call fun v_38 h39 =>
arb (.of (ldn 3 h39 d_34) h39) call fun v_40 h41 =>
arb (.call F_bag_clone [v_40] h41) call fun v_42 h43 =>
arb (bslR 3 [(.int .i64 0), (.int .i64 0), .nils] 1 h43 [(0, 3, v_42)]) call fun v_44 h45 =>
arb (appR 3 40 h45 v_38 v_44) call fun v_46 h47 =>
arb (.val v_46 h47) call fun out_48 h49 =>
k29 .normal (upd (upd (upd (upd (upd (upd (upd (upd (upd t 13 v_30) 14 v_32) 5 d_34) 15 v_38) 16 v_40) 17 v_42) 18 v_44) 19 v_46) 3 out_48) h49

def L_bag_Bag_All_1 (P : Program) (call : FuncId → List AVal → Heap → Res AVal) (fuel : Nat) (t : T) (h : Heap) : Res (Ex × T) :=
lt okK fun k =>
arb (.of (aBin P .lss 3 (.tmp 11) (.tmp 10) (t 11) (t 10)) h) call fun v_22 h23 =>
lt (sqK (J_bag_Bag_All_2 P call fuel k) k) fun k50 =>
cb v_22 (
k50 .normal (upd t 12 v_22) h23) (
k50 (.exit 0) (upd t 12 v_22) h23)

def S_bag_Bag_All (P : Program) (call : FuncId → List AVal → Heap → Res AVal) (fuel : Nat) (b_a0 : AVal) (h : Heap) : Res AVal :=
lt (retK P [.tmp 2]) fun k =>
arb (.val .nils h) call fun v_0 h1 =>
arb (.val .nils h1) call fun out_2 h3 =>
lt (sqK (J_bag_Bag_All_0 P call fuel k) k) fun k8 =>
arb (.val b_a0 h3) call fun v_9 h10 =>
arb (nckR v_9 h10) call fun v_11 h12 =>
arb (.of (fadR 0 v_11) h12) call fun v_13 h14 =>
arb (.of (ld1 h14 v_13) h14) call fun v_15 h16 =>
arb (.of (lenL v_15) h16) call fun v_17 h18 =>
arb (.val (.int .i64 0) h18) call fun v_19 h20 =>
lt (blkK 0 k8) fun k21 =>
(loopN (L_bag_Bag_All_1 P call fuel) fuel (upd (upd (upd (upd (upd (upd (upd (upd (enterT [b_a0]) 2 v_0) 3 out_2) 6 v_9) 7 v_11) 8 v_13) 9 v_15) 10 v_17) 11 v_19) h20).bind (lpK k21)
theorem E_bag_Bag_All (call : FuncId → List AVal → Heap → Res AVal) (fuel : Nat) (b_a0 : AVal) (h : Heap) : bodyR Try.prog call fuel Try.f11 [b_a0] h = S_bag_Bag_All Try.prog call fuel b_a0 h := by kernel_rfl
theorem R_bag_Bag_All {X : XTab} (b_a0 : AVal) {h : Heap} {Q : AVal → Heap → Prop} (hx : X F_bag_Bag_All [b_a0] = none) (q : Tells (fun m => S_bag_Bag_All Try.prog (acallX Try.prog X m) m b_a0 h) Q) :
    Tells (fun m => acallX Try.prog X m F_bag_Bag_All [b_a0] h) Q :=
  Tells.later (q.le fun m => (E_bag_Bag_All (acallX Try.prog X m) m b_a0 h) ▸ acallX_le Try.func11 hx m h)

/-! ### (*precentor/bag.Bag).Len -/

def S_bag_Bag_Len (P : Program) (call : FuncId → List AVal → Heap → Res AVal) (fuel : Nat) (b_a0 : AVal) (h : Heap) : Res AVal :=
lt (retK P [.tmp 2]) fun k =>
arb (.val (.int .i64 0) h) call fun v_0 h1 =>
arb (.val b_a0 h1) call fun v_2 h3 =>
arb (nckR v_2 h3) call fun v_4 h5 =>
arb (.of (fadR 0 v_4) h5) call fun v_6 h7 =>
arb (.of (ld1 h7 v_6) h7) call fun v_8 h9 =>
arb (.of (lenL v_8) h9) call fun v_10 h11 =>
arb (.val v_10 h11) call fun v_12 h13 =>
k .ret (upd (upd (upd (upd (upd (upd (upd (enterT [b_a0]) 2 v_0) 3 v_2) 4 v_4) 5 v_6) 6 v_8) 7 v_10) 2 v_12) h13
theorem E_bag_Bag_Len (call : FuncId → List AVal → Heap → Res AVal) (fuel : Nat) (b_a0 : AVal) (h : Heap) : bodyR Try.prog call fuel Try.f12 [b_a0] h = S_bag_Bag_Len Try.prog call fuel b_a0 h := by kernel_rfl
theorem R_bag_Bag_Len {X : XTab} (b_a0 : AVal) {h : Heap} {Q : AVal → Heap → Prop} (hx : X F_bag_Bag_Len [b_a0] = none) (q : Tells (fun m => S_bag_Bag_Len Try.prog (acallX Try.prog X m) m b_a0 h) Q) :
    Tells (fun m => acallX Try.prog X m F_bag_Bag_Len [b_a0] h) Q :=
  Tells.later (q.le fun m => (E_bag_Bag_Len (acallX Try.prog X m) m b_a0 h) ▸ acallX_le Try.func12 hx m h)

/-! ### (*precentor/bag.Bag).Drop -/

def S_bag_Bag_Drop (P : Program) (call : FuncId → List AVal → Heap → Res AVal) (fuel : Nat) (b_a0 k_a1 : AVal) (h : Heap) : Res AVal :=
lt (retK P [.tmp 4]) fun k =>
arb (.val (.bool false) h) call fun v_0 h1 =>
arb (.val b_a0 h1) call fun v_2 h3 =>
arb (.val k_a1 h3) call fun v_4 h5 =>
arb (.call F_bag_Bag_Take [v_2, v_4] h5) call fun v_6 h7 =>
arb (.val v_6 h7) call fun v_8 h9 =>
arb (extR v_8 0 h9) call fun v_10 h11 =>
arb (extR v_8 1 h11) call fun v_12 h13 =>
arb (newR [(.int .i64 0), (.int .i64 0), .nils] h13) call fun v_14 h15 =>
arb (stR 3 h15 v_14 v_10) call fun v_16 h17 =>
arb (.val v_12 h17) call fun ok_18 h19 =>
arb (.val ok_18 h19) call fun v_20 h21 =>
arb (.val v_20 h21) call fun v_22 h23 =>
k .ret (upd (upd (upd (upd (upd (upd (upd (upd (upd (upd (upd (enterT [b_a0, k_a1]) 4 v_0) 8 v_2) 9 v_4) 10 v_6) 7 v_8) 11 v_10) 12 v_12) 5 v_14) 6 ok_18) 13 v_20) 4 v_22) h23
theorem E_bag_Bag_Drop (call : FuncId → List AVal → Heap → Res AVal) (fuel : Nat) (b_a0 k_a1 : AVal) (h : Heap) : bodyR Try.prog call fuel Try.f13 [b_a0, k_a1] h = S_bag_Bag_Drop Try.prog call fuel b_a0 k_a1 h := by kernel_rfl
theorem R_bag_Bag_Drop {X : XTab} (b_a0 k_a1 : AVal) {h : Heap} {Q : AVal → Heap → Prop} (hx : X F_bag_Bag_Drop [b_a0, k_a1] = none) (q : Tells (fun m => S_bag_Bag_Drop Try.prog (acallX Try.prog X m) m b_a0 k_a1 h) Q) :
    Tells (fun m => acallX Try.prog X m F_bag_Bag_Drop [b_a0, k_a1] h) Q :=
  Tells.later (q.le fun m => (E_bag_Bag_Drop (acallX Try.prog X m) m b_a0 k_a1 h) ▸ acallX_le Try.func13 hx m h)

/-! ### precentor/bag.clone -/

theorem C_bag_clone_0 (h : Heap) (a : AVal) : aLoad Try.prog h 28 a = ldn 3 h a := by kernel_rfl
def S_bag_clone (P : Program) (call : FuncId → List AVal → Heap → Res AVal) (fuel : Nat) (d_a0 : AVal) (h : Heap) : Res AVal :=
lt (retK P [.cell 2 28]) fun k =>
arb (boxR d_a0 h) call fun d_0 h1 =>
arb (newR [(.int .i64 0), (.int .i64 0), .nils] h1) call fun v_2 h3 =>
arb (.of (fadR 2 d_0) h3) call fun v_4 h5 =>
arb (.of (ld1 h5 v_4) h5) call fun v_6 h7 =>
arb (appR 1 1 h7 .nils v_6) call fun v_8 h9 =>
arb (.of (fadR 2 d_0) h9) call fun v_10 h11 =>
arb (stR 1 h11 v_10 v_8) call fun v_12 h13 =>
arb (.of (ldn 3 h13 d_0) h13) call fun v_14 h15 =>
arb (stR 3 h15 v_2 v_14) call fun v_16 h17 =>
k .ret (upd (upd (upd (upd (upd (upd (upd (enterT [d_a0]) 1 d_0) 2 v_2) 3 v_4) 4 v_6) 5 v_8) 6 v_10) 7 v_14) h17
theorem E_bag_clone (call : FuncId → List AVal → Heap → Res AVal) (fuel : Nat) (d_a0 : AVal) (h : Heap) : bodyR Try.prog call fuel Try.f21 [d_a0] h = S_bag_clone Try.prog call fuel d_a0 h := by kernel_rfl
theorem R_bag_clone {X : XTab} (d_a0 : AVal) {h : Heap} {Q : AVal → Heap → Prop} (hx : X F_bag_clone [d_a0] = none) (q : Tells (fun m => S_bag_clone Try.prog (acallX Try.prog X m) m d_a0 h) Q) :
    Tells (fun m => acallX Try.prog X m F_bag_clone [d_a0] h) Q :=
  Tells.later (q.le fun m => (E_bag_clone (acallX Try.prog X m) m d_a0 h) ▸ acallX_le Try.func21 hx m h)

/-! ### (*precentor/bag.Bag).is -/

def S_bag_Bag_is (P : Program) (call : FuncId → List AVal → Heap → Res AVal) (fuel : Nat) (b_a0 k_a1 : AVal) (h : Heap) : Res AVal :=
lt (retK P [.tmp 4]) fun k =>
arb (.val (.bool false) h) call fun v_0 h1 =>
arb (.val k_a1 h1) call fun v_2 h3 =>
arb (.of (aBin P .geq 3 (.tmp 5) (.const (.int .i64 0)) v_2 (.int .i64 0)) h3) call fun v_4 h5 =>
arb (.val v_4 h5) call fun v_6 h7 =>
gd (wantB v_6 true) (fun c => arb (.val k_a1 h7) call c) h7 fun v_8 h9 =>
gd (wantB v_6 true) (fun c => arb (.val b_a0 h9) call c) h9 fun v_10 h11 =>
gd (wantB v_6 true) (fun c => arb (nckR v_10 h11) call c) h11 fun v_12 h13 =>
gd (wantB v_6 true) (fun c => arb (.of (fadR 0 v_12) h13) call c) h13 fun v_14 h15 =>
gd (wantB v_6 true) (fun c => arb (.of (ld1 h15 v_14) h15) call c) h15 fun v_16 h17 =>
gd (wantB v_6 true) (fun c => arb (.of (lenL v_16) h17) call c) h17 fun v_18 h19 =>
gd (wantB v_6 true) (fun c => arb (.of (aBin P .lss 3 (.tmp 8) (.tmp 13) v_8 v_18) h19) call c) h19 fun v_20 h21 =>
arb (pkR v_6 v_20 (.bool false) h21) call fun v_22 h23 =>
arb (.val v_22 h23) call fun v_24 h25 =>
k .ret (upd (upd (upd (upd (upd (upd (upd (upd (upd (upd (upd (upd (upd (enterT [b_a0, k_a1]) 4 v_0) 5 v_2) 6 v_4) 7 v_6) 8 v_8) 9 v_10) 10 v_12) 11 v_14) 12 v_16) 13 v_18) 14 v_20) 15 v_22) 4 v_24) h25
theorem E_bag_Bag_is (call : FuncId → List AVal → Heap → Res AVal) (fuel : Nat) (b_a0 k_a1 : AVal) (h : Heap) : bodyR Try.prog call fuel Try.f22 [b_a0, k_a1] h = S_bag_Bag_is Try.prog call fuel b_a0 k_a1 h := by kernel_rfl
theorem R_bag_Bag_is {X : XTab} (b_a0 k_a1 : AVal) {h : Heap} {Q : AVal → Heap → Prop} (hx : X F_bag_Bag_is [b_a0, k_a1] = none) (q : Tells (fun m => S_bag_Bag_is Try.prog (acallX Try.prog X m) m b_a0 k_a1 h) Q) :
    Tells (fun m => acallX Try.prog X m F_bag_Bag_is [b_a0, k_a1] h) Q :=
  Tells.later (q.le fun m => (E_bag_Bag_is (acallX Try.prog X m) m b_a0 k_a1 h) ▸ acallX_le Try.func22 hx m h)


end Go.Proofs.Ythepnokmoaipfaa
