/-
  Functions of precentorref14 in the form of YthepnokmoaipfaaABS (printed by a program of ours, gen.lean).
-/
import Derived.Test.YthepnokmoaipfaaSIds
set_option linter.unusedVariables false
namespace Go.Proofs.Ythepnokmoaipfaa
open Go.Ab
/-! ### (*precentor/precentorref14.Bag).Put -/
def J_precentorref14_Bag_Put_0 (P : Program) (call : FuncId → List AVal → Heap → Res AVal) (fuel : Nat) (k : Kn (AVal)) (t : T) (h : Heap) : Res (AVal) :=
arb (.val (t 5) h) call fun v_4 h5 =>
arb (.val v_4 h5) call fun v_6 h7 =>
k .ret (upd (upd t 34 v_4) 4 v_6) h7

def J_precentorref14_Bag_Put_3 (P : Program) (call : FuncId → List AVal → Heap → Res AVal) (fuel : Nat) (k : Kn (Ex × T)) (t : T) (h : Heap) : Res (Ex × T) :=
arb (.val (t 6) h) call fun v_12 h13 =>
arb (.of (aBin P .add 3 (.tmp 11) (.const (.int .i64 1)) v_12 (.int .i64 1)) h13) call fun v_14 h15 =>
arb (.val v_14 h15) call fun i_16 h17 =>
k .normal (upd (upd (upd t 11 v_12) 12 v_14) 6 i_16) h17

def J_precentorref14_Bag_Put_2 (P : Program) (call : FuncId → List AVal → Heap → Res AVal) (fuel : Nat) (k : Kn (Ex × T)) (t : T) (h : Heap) : Res (Ex × T) :=
lt (sqK (J_precentorref14_Bag_Put_3 P call fuel k) k) fun k18 =>
lt (blkK 1 k18) fun k19 =>
arb (.val (t 0) h) call fun v_20 h21 =>
arb (nckR v_20 h21) call fun v_22 h23 =>
arb (.of (fadR 0 v_22) h23) call fun v_24 h25 =>
arb (.of (ld1 h25 v_24) h25) call fun v_26 h27 =>
arb (.of (lenL v_26) h27) call fun v_28 h29 =>
arb (.of (aBin P .lss 3 (.tmp 17) (.const (.int .i64 600)) v_28 (.int .i64 600)) h29) call fun v_30 h31 =>
cb v_30 (
obv (.val (t 0) h31) fun v_32 =>
obv (.val (t 0) h31) fun v_34 =>
obv (nckR v_34 h31) fun v_36 =>
obv (.of (fadR 0 v_36) h31) fun v_38 =>
obv (.of (ld1 h31 v_38) h31) fun v_40 => ifb true <|
obv (.val (t 1) h31) fun v_42 =>
obv (.val (t 6) h31) fun v_44 =>
obv (.of (ixsR 3 v_42 v_44) h31) fun v_46 =>
obv (.of (ldn 3 h31 v_46) h31) fun v_48 => ifb true <|
arbV (bslR 3 [(.int .i64 0), (.int .i64 0), .nils] 1 h31 [(0, 3, v_48)]) fun v_50 h51 =>
arbE (appR 3 40 h51 v_40 v_50) call fun v_52 h53 => lt h53 fun g53 => ifb (true && true) <|
obv (nckR v_32 g53) fun v_54 =>
obv (.of (fadR 0 v_54) g53) fun v_56 =>
arbE (stR 1 g53 v_56 v_52) call fun v_58 h59 => lt h59 fun g59 => ifb (true && true) <|
arb (.val (t 5) g59) call fun v_60 h61 =>
arb (.of (aBin P .add 3 (.tmp 32) (.const (.int .i64 1)) v_60 (.int .i64 1)) h61) call fun v_62 h63 =>
arb (.val v_62 h63) call fun n_64 h65 =>
k19 .normal (upd (upd (upd (upd (upd (upd (upd (upd (upd (upd (upd (upd (upd (upd (upd (upd (upd (upd (upd (upd (upd (upd t 13 v_20) 14 v_22) 15 v_24) 16 v_26) 17 v_28) 18 v_30) 19 v_32) 20 v_34) 21 v_36) 22 v_38) 23 v_40) 24 v_42) 25 v_44) 26 v_46) 27 v_48) 28 v_50) 29 v_52) 30 v_54) 31 v_56) 32 v_60) 33 v_62) 5 n_64) h65) (
k19 .normal (upd (upd (upd (upd (upd (upd t 13 v_20) 14 v_22) 15 v_24) 16 v_26) 17 v_28) 18 v_30) h31)

def L_precentorref14_Bag_Put_1 (P : Program) (call : FuncId → List AVal → Heap → Res AVal) (fuel : Nat) (t : T) (h : Heap) : Res (Ex × T) :=
lt okK fun k =>
lt (sqK (J_precentorref14_Bag_Put_2 P call fuel k) k) fun k66 =>
arb (.val (t 6) h) call fun v_67 h68 =>
arb (.val (t 1) h68) call fun v_69 h70 =>
arb (.of (lenL v_69) h70) call fun v_71 h72 =>
arb (.of (aBin P .lss 3 (.tmp 7) (.tmp 9) v_67 v_71) h72) call fun v_73 h74 =>
cb v_73 (
k66 .normal (upd (upd (upd (upd t 7 v_67) 8 v_69) 9 v_71) 10 v_73) h74) (
k66 (.exit 0) (upd (upd (upd (upd t 7 v_67) 8 v_69) 9 v_71) 10 v_73) h74)

def S_precentorref14_Bag_Put (P : Program) (call : FuncId → List AVal → Heap → Res AVal) (fuel : Nat) (b_a0 l_a1 : AVal) (h : Heap) : Res AVal :=
lt (retK P [.tmp 4]) fun k =>
arb (.val (.int .i64 0) h) call fun v_0 h1 =>
arb (.val (.int .i64 0) h1) call fun n_2 h3 =>
lt (sqK (J_precentorref14_Bag_Put_0 P call fuel k) k) fun k8 =>
arb (.val (.int .i64 0) h3) call fun i_9 h10 =>
lt (blkK 0 k8) fun k11 =>
(loopN (L_precentorref14_Bag_Put_1 P call fuel) fuel (upd (upd (upd (enterT [b_a0, l_a1]) 4 v_0) 5 n_2) 6 i_9) h10).bind (lpK k11)
theorem E_precentorref14_Bag_Put (call : FuncId → List AVal → Heap → Res AVal) (fuel : Nat) (b_a0 l_a1 : AVal) (h : Heap) : bodyR Try.prog call fuel Try.f16 [b_a0, l_a1] h = S_precentorref14_Bag_Put Try.prog call fuel b_a0 l_a1 h := by kernel_rfl
theorem R_precentorref14_Bag_Put {X : XTab} (b_a0 l_a1 : AVal) {h : Heap} {Q : AVal → Heap → Prop} (hx : X F_precentorref14_Bag_Put [b_a0, l_a1] = none) (q : Tells (fun m => S_precentorref14_Bag_Put Try.prog (acallX Try.prog X m) m b_a0 l_a1 h) Q) :
    Tells (fun m => acallX Try.prog X m F_precentorref14_Bag_Put [b_a0, l_a1] h) Q :=
  Tells.later (q.le fun m => (E_precentorref14_Bag_Put (acallX Try.prog X m) m b_a0 l_a1 h) ▸ acallX_le Try.func16 hx m h)

/-! ### (*precentor/precentorref14.Bag).Take -/
def J_precentorref14_Bag_Take_0 (P : Program) (call : FuncId → List AVal → Heap → Res AVal) (fuel : Nat) (k : Kn (AVal)) (t : T) (h : Heap) : Res (AVal) :=
arb (.val (t 0) h) call fun v_4 h5 =>
arb (nckR v_4 h5) call fun v_6 h7 =>
arb (.of (fadR 0 v_6) h7) call fun v_8 h9 =>
arb (.of (ld1 h9 v_8) h9) call fun v_10 h11 =>
arb (.val (t 1) h11) call fun v_12 h13 =>
arb (.of (ixsR 3 v_10 v_12) h13) call fun v_14 h15 =>
arb (.of (ldn 3 h15 v_14) h15) call fun v_16 h17 =>
arb (newR [(.int .i64 0), (.int .i64 0), .nils] h17) call fun d_18 h19 =>
arb (stR 3 h19 d_18 v_16) call fun v_20 h21 =>
obv (.val (t 0) h21) fun v_22 =>
arbV (bslR 3 [] 0 h21 []) fun v_24 h25 =>
obv (.val (t 0) h25) fun v_26 =>
obv (nckR v_26 h25) fun v_28 =>
obv (.of (fadR 0 v_28) h25) fun v_30 =>
obv (.of (ld1 (killIf true h25 h21.next) v_30) (killIf true h25 h21.next)) fun v_32 => ifb true <|
obv (.val (t 1) h25) fun v_34 =>
obv (.of (slcR 3 v_32 none (some v_34) none) h25) fun v_36 =>
arbE (appR 3 40 h25 v_24 v_36) call fun v_38 h39 => lt h39 fun g39 => ifb (true && true) <|
obv (.val (t 0) g39) fun v_40 =>
obv (nckR v_40 g39) fun v_42 =>
obv (.of (fadR 0 v_42) g39) fun v_44 =>
obv (.of (ld1 (killIf true g39 h21.next) v_44) (killIf true g39 h21.next)) fun v_46 => ifb (isV v_46 (arVal (.of (ld1 (killIf true h25 h21.next) v_44) (killIf true h25 h21.next))) && true) <|
obv (.val (t 1) g39) fun v_48 =>
obv (.of (aBin P .add 3 (.tmp 39) (.const (.int .i64 1)) v_48 (.int .i64 1)) g39) fun v_50 =>
obv (.of (slcR 3 v_46 (some v_50) none none) g39) fun v_52 =>
arbE (appR 3 40 g39 v_38 v_52) call fun v_54 h55 => lt h55 fun g55 => ifb (true && true) <|
obv (nckR v_22 g55) fun v_56 =>
obv (.of (fadR 0 v_56) g55) fun v_58 =>
arbE (stR 1 g55 v_58 v_54) call fun v_60 h61 => lt h61 fun g61 => ifb (true && true) <|
arb (.of (ldn 3 g61 d_18) g61) call fun v_62 h63 =>
arb (stR 3 h63 (t 4) v_62) call fun v_64 h65 =>
arb (.val (.bool true) h65) call fun v_66 h67 =>
k .ret (upd (upd (upd (upd (upd (upd (upd (upd (upd (upd (upd (upd (upd (upd (upd (upd (upd (upd (upd (upd (upd (upd (upd (upd (upd (upd (upd (upd (upd t 19 v_4) 20 v_6) 21 v_8) 22 v_10) 23 v_12) 24 v_14) 25 v_16) 6 d_18) 26 v_22) 27 v_24) 28 v_26) 29 v_28) 30 v_30) 31 v_32) 32 v_34) 33 v_36) 34 v_38) 35 v_40) 36 v_42) 37 v_44) 38 v_46) 39 v_48) 40 v_50) 41 v_52) 42 v_54) 43 v_56) 44 v_58) 45 v_62) 5 v_66) h67

theorem C_precentorref14_Bag_Take_0 (h : Heap) (a : AVal) : aLoad Try.prog h 28 a = ldn 3 h a := by kernel_rfl
def S_precentorref14_Bag_Take (P : Program) (call : FuncId → List AVal → Heap → Res AVal) (fuel : Nat) (b_a0 k_a1 : AVal) (h : Heap) : Res AVal :=
lt (retK P [.cell 4 28, .tmp 5]) fun k =>
arb (newR [(.int .i64 0), (.int .i64 0), .nils] h) call fun v_0 h1 =>
arb (.val (.bool false) h1) call fun v_2 h3 =>
lt (sqK (J_precentorref14_Bag_Take_0 P call fuel k) k) fun k68 =>
arb (.val k_a1 h3) call fun v_69 h70 =>
arb (.of (aBin P .lss 3 (.tmp 7) (.const (.int .i64 0)) v_69 (.int .i64 0)) h70) call fun v_71 h72 =>
arb (.val v_71 h72) call fun v_73 h74 =>
gd (wantB v_73 false) (fun c => arb (.val k_a1 h74) call c) h74 fun v_75 h76 =>
gd (wantB v_73 false) (fun c => arb (.val b_a0 h76) call c) h76 fun v_77 h78 =>
gd (wantB v_73 false) (fun c => arb (nckR v_77 h78) call c) h78 fun v_79 h80 =>
gd (wantB v_73 false) (fun c => arb (.of (fadR 0 v_79) h80) call c) h80 fun v_81 h82 =>
gd (wantB v_73 false) (fun c => arb (.of (ld1 h82 v_81) h82) call c) h82 fun v_83 h84 =>
gd (wantB v_73 false) (fun c => arb (.of (lenL v_83) h84) call c) h84 fun v_85 h86 =>
gd (wantB v_73 false) (fun c => arb (.of (aBin P .geq 3 (.tmp 10) (.tmp 15) v_75 v_85) h86) call c) h86 fun v_87 h88 =>
arb (pkR v_73 (.bool true) v_87 h88) call fun v_89 h90 =>
cb v_89 (
arb (.of (bldR [(.int .i64 0), (.int .i64 0), .nils] []) h90) call fun v_91 h92 =>
arb (stR 3 h92 v_0 v_91) call fun v_93 h94 =>
arb (.val (.bool false) h94) call fun v_95 h96 =>
k68 .ret (upd (upd (upd (upd (upd (upd (upd (upd (upd (upd (upd (upd (upd (upd (upd (enterT [b_a0, k_a1]) 4 v_0) 5 v_2) 7 v_69) 8 v_71) 9 v_73) 10 v_75) 11 v_77) 12 v_79) 13 v_81) 14 v_83) 15 v_85) 16 v_87) 17 v_89) 18 v_91) 5 v_95) h96) (
k68 .normal (upd (upd (upd (upd (upd (upd (upd (upd (upd (upd (upd (upd (upd (enterT [b_a0, k_a1]) 4 v_0) 5 v_2) 7 v_69) 8 v_71) 9 v_73) 10 v_75) 11 v_77) 12 v_79) 13 v_81) 14 v_83) 15 v_85) 16 v_87) 17 v_89) h90)
theorem E_precentorref14_Bag_Take (call : FuncId → List AVal → Heap → Res AVal) (fuel : Nat) (b_a0 k_a1 : AVal) (h : Heap) : bodyR Try.prog call fuel Try.f17 [b_a0, k_a1] h = S_precentorref14_Bag_Take Try.prog call fuel b_a0 k_a1 h := by kernel_rfl
theorem R_precentorref14_Bag_Take {X : XTab} (b_a0 k_a1 : AVal) {h : Heap} {Q : AVal → Heap → Prop} (hx : X F_precentorref14_Bag_Take [b_a0, k_a1] = none) (q : Tells (fun m => S_precentorref14_Bag_Take Try.prog (acallX Try.prog X m) m b_a0 k_a1 h) Q) :
    Tells (fun m => acallX Try.prog X m F_precentorref14_Bag_Take [b_a0, k_a1] h) Q :=
  Tells.later (q.le fun m => (E_precentorref14_Bag_Take (acallX Try.prog X m) m b_a0 k_a1 h) ▸ acallX_le Try.func17 hx m h)

/-! ### (*precentor/precentorref14.Bag).Twice -/
def J_precentorref14_Bag_Twice_0 (P : Program) (call : FuncId → List AVal → Heap → Res AVal) (fuel : Nat) (k : Kn (AVal)) (t : T) (h : Heap) : Res (AVal) :=
obv (.val (t 0) h) fun v_2 =>
obv (.val (t 0) h) fun v_4 =>
obv (nckR v_4 h) fun v_6 =>
obv (.of (fadR 0 v_6) h) fun v_8 =>
obv (.of (ld1 h v_8) h) fun v_10 => ifb true <|
obv (.val (t 0) h) fun v_12 =>
obv (nckR v_12 h) fun v_14 =>
obv (.of (fadR 0 v_14) h) fun v_16 =>
obv (.of (ld1 h v_16) h) fun v_18 => ifb true <|
obv (.val (t 1) h) fun v_20 =>
obv (.of (ixsR 3 v_18 v_20) h) fun v_22 =>
obv (.of (ldn 3 h v_22) h) fun v_24 => ifb true <|
arbV (bslR 3 [(.int .i64 0), (.int .i64 0), .nils] 1 h [(0, 3, v_24)]) fun v_26 h27 =>
arbE (appR 3 40 h27 v_10 v_26) call fun v_28 h29 => lt h29 fun g29 => ifb (true && true) <|
obv (nckR v_2 g29) fun v_30 =>
obv (.of (fadR 0 v_30) g29) fun v_32 =>
arbE (stR 1 g29 v_32 v_28) call fun v_34 h35 => lt h35 fun g35 => ifb (true && true) <|
arb (.val (.bool true) g35) call fun v_36 h37 =>
k .ret (upd (upd (upd (upd (upd (upd (upd (upd (upd (upd (upd (upd (upd (upd (upd (upd (upd t 24 v_2) 25 v_4) 26 v_6) 27 v_8) 28 v_10) 29 v_12) 30 v_14) 31 v_16) 32 v_18) 33 v_20) 34 v_22) 35 v_24) 36 v_26) 37 v_28) 38 v_30) 39 v_32) 4 v_36) h37

def S_precentorref14_Bag_Twice (P : Program) (call : FuncId → List AVal → Heap → Res AVal) (fuel : Nat) (b_a0 k_a1 : AVal) (h : Heap) : Res AVal :=
lt (retK P [.tmp 4]) fun k =>
arb (.val (.bool false) h) call fun v_0 h1 =>
lt (sqK (J_precentorref14_Bag_Twice_0 P call fuel k) k) fun k38 =>
arb (.val k_a1 h1) call fun v_39 h40 =>
arb (.of (aBin P .lss 3 (.tmp 5) (.const (.int .i64 0)) v_39 (.int .i64 0)) h40) call fun v_41 h42 =>
arb (.val v_41 h42) call fun v_43 h44 =>
gd (wantB v_43 false) (fun c => arb (.val k_a1 h44) call c) h44 fun v_45 h46 =>
gd (wantB v_43 false) (fun c => arb (.val b_a0 h46) call c) h46 fun v_47 h48 =>
gd (wantB v_43 false) (fun c => arb (nckR v_47 h48) call c) h48 fun v_49 h50 =>
gd (wantB v_43 false) (fun c => arb (.of (fadR 0 v_49) h50) call c) h50 fun v_51 h52 =>
gd (wantB v_43 false) (fun c => arb (.of (ld1 h52 v_51) h52) call c) h52 fun v_53 h54 =>
gd (wantB v_43 false) (fun c => arb (.of (lenL v_53) h54) call c) h54 fun v_55 h56 =>
gd (wantB v_43 false) (fun c => arb (.of (aBin P .geq 3 (.tmp 8) (.tmp 13) v_45 v_55) h56) call c) h56 fun v_57 h58 =>
arb (pkR v_43 (.bool true) v_57 h58) call fun v_59 h60 =>
arb (.val v_59 h60) call fun v_61 h62 =>
gd (wantB v_61 false) (fun c => arb (.val b_a0 h62) call c) h62 fun v_63 h64 =>
gd (wantB v_61 false) (fun c => arb (nckR v_63 h64) call c) h64 fun v_65 h66 =>
gd (wantB v_61 false) (fun c => arb (.of (fadR 0 v_65) h66) call c) h66 fun v_67 h68 =>
gd (wantB v_61 false) (fun c => arb (.of (ld1 h68 v_67) h68) call c) h68 fun v_69 h70 =>
gd (wantB v_61 false) (fun c => arb (.of (lenL v_69) h70) call c) h70 fun v_71 h72 =>
gd (wantB v_61 false) (fun c => arb (.of (aBin P .geq 3 (.tmp 21) (.const (.int .i64 600)) v_71 (.int .i64 600)) h72) call c) h72 fun v_73 h74 =>
arb (pkR v_61 (.bool true) v_73 h74) call fun v_75 h76 =>
cb v_75 (
arb (.val (.bool false) h76) call fun v_77 h78 =>
k38 .ret (upd (upd (upd (upd (upd (upd (upd (upd (upd (upd (upd (upd (upd (upd (upd (upd (upd (upd (upd (upd (upd (enterT [b_a0, k_a1]) 4 v_0) 5 v_39) 6 v_41) 7 v_43) 8 v_45) 9 v_47) 10 v_49) 11 v_51) 12 v_53) 13 v_55) 14 v_57) 15 v_59) 16 v_61) 17 v_63) 18 v_65) 19 v_67) 20 v_69) 21 v_71) 22 v_73) 23 v_75) 4 v_77) h78) (
k38 .normal (upd (upd (upd (upd (upd (upd (upd (upd (upd (upd (upd (upd (upd (upd (upd (upd (upd (upd (upd (upd (enterT [b_a0, k_a1]) 4 v_0) 5 v_39) 6 v_41) 7 v_43) 8 v_45) 9 v_47) 10 v_49) 11 v_51) 12 v_53) 13 v_55) 14 v_57) 15 v_59) 16 v_61) 17 v_63) 18 v_65) 19 v_67) 20 v_69) 21 v_71) 22 v_73) 23 v_75) h76)
theorem E_precentorref14_Bag_Twice (call : FuncId → List AVal → Heap → Res AVal) (fuel : Nat) (b_a0 k_a1 : AVal) (h : Heap) : bodyR Try.prog call fuel Try.f19 [b_a0, k_a1] h = S_precentorref14_Bag_Twice Try.prog call fuel b_a0 k_a1 h := by kernel_rfl
theorem R_precentorref14_Bag_Twice {X : XTab} (b_a0 k_a1 : AVal) {h : Heap} {Q : AVal → Heap → Prop} (hx : X F_precentorref14_Bag_Twice [b_a0, k_a1] = none) (q : Tells (fun m => S_precentorref14_Bag_Twice Try.prog (acallX Try.prog X m) m b_a0 k_a1 h) Q) :
    Tells (fun m => acallX Try.prog X m F_precentorref14_Bag_Twice [b_a0, k_a1] h) Q :=
  Tells.later (q.le fun m => (E_precentorref14_Bag_Twice (acallX Try.prog X m) m b_a0 k_a1 h) ▸ acallX_le Try.func19 hx m h)


end Go.Proofs.Ythepnokmoaipfaa
