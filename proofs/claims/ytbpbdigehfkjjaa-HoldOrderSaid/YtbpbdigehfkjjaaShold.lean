/-
  Functions of hold in the form of YtbpbdigehfkjjaaABS (printed by a program of ours, gen.lean).
-/
import Derived.Test.YtbpbdigehfkjjaaSIds
set_option linter.unusedVariables false
namespace Go.Proofs.Ytbpbdigehfkjjaa
open Go.Ab
/-! ### precentor/hold.New -/

def S_hold_New (P : Program) (call : FuncId → List AVal → Heap → Res AVal) (fuel : Nat) (most_a0 own_a1 : AVal) (h : Heap) : Res AVal :=
lt (retK P [.tmp 4]) fun k =>
arb (.val .nilp h) call fun v_0 h1 =>
arb (.val most_a0 h1) call fun v_2 h3 =>
arb (.val own_a1 h3) call fun v_4 h5 =>
arb (.call F_clock_New [v_4] h5) call fun v_6 h7 =>
arb (.of (bldR [(.int .i64 0), .nils, .nils] [(0, 1, v_2), (1, 1, v_6)]) h7) call fun v_8 h9 =>
arb (boxR v_8 h9) call fun v_10 h11 =>
arb (.val v_10 h11) call fun v_12 h13 =>
k .ret (upd (upd (upd (upd (upd (upd (upd (enterT [most_a0, own_a1]) 4 v_0) 5 v_2) 6 v_4) 7 v_6) 8 v_8) 9 v_10) 4 v_12) h13
theorem E_hold_New (call : FuncId → List AVal → Heap → Res AVal) (fuel : Nat) (most_a0 own_a1 : AVal) (h : Heap) : bodyR Try.prog call fuel Try.f8 [most_a0, own_a1] h = S_hold_New Try.prog call fuel most_a0 own_a1 h := by kernel_rfl
theorem R_hold_New {X : XTab} (most_a0 own_a1 : AVal) {h : Heap} {Q : AVal → Heap → Prop} (hx : X F_hold_New [most_a0, own_a1] = none) (q : Tells (fun m => S_hold_New Try.prog (acallX Try.prog X m) m most_a0 own_a1 h) Q) :
    Tells (fun m => acallX Try.prog X m F_hold_New [most_a0, own_a1] h) Q :=
  Tells.later (q.le fun m => (E_hold_New (acallX Try.prog X m) m most_a0 own_a1 h) ▸ acallX_le Try.func8 hx m h)

/-! ### (*precentor/hold.Hold).Put -/
def J_hold_Hold_Put_1 (P : Program) (call : FuncId → List AVal → Heap → Res AVal) (fuel : Nat) (k : Kn (AVal)) (t : T) (h : Heap) : Res (AVal) :=
obv (.val (t 0) h) fun v_4 =>
obv (.val (t 0) h) fun v_6 =>
obv (nckR v_6 h) fun v_8 =>
obv (.of (fadR 2 v_8) h) fun v_10 =>
obv (.of (ld1 h v_10) h) fun v_12 => ifb true <|
obv (.of (ldn 7 h (t 3)) h) fun v_14 => ifb true <|
arbE (.call F_hold_clone [v_14] h) call fun v_16 h17 => lt h17 fun g17 => ifb (true && (isV v_12 (arVal (.of (ld1 g17 v_10) g17)) && true)) <|
arbV (bslR 7 [(.int .i64 0), (.int .i64 0), (.int .i64 0), (.int .i64 0), (.int .i64 0), .nils, .nils] 1 g17 [(0, 7, v_16)]) fun v_18 h19 =>
arbE (appR 7 88 h19 v_12 v_18) call fun v_20 h21 => lt h21 fun g21 => ifb (true && true) <|
obv (nckR v_4 g21) fun v_22 =>
obv (.of (fadR 2 v_22) g21) fun v_24 =>
arbE (stR 1 g21 v_24 v_20) call fun v_26 h27 => lt h27 fun g27 => ifb (true && true) <|
arb (.val (.int .i64 0) g27) call fun v_28 h29 =>
k .ret (upd (upd (upd (upd (upd (upd (upd (upd (upd (upd (upd (upd t 39 v_4) 40 v_6) 41 v_8) 42 v_10) 43 v_12) 44 v_14) 45 v_16) 46 v_18) 47 v_20) 48 v_22) 49 v_24) 4 v_28) h29

def J_hold_Hold_Put_0 (P : Program) (call : FuncId → List AVal → Heap → Res AVal) (fuel : Nat) (k : Kn (AVal)) (t : T) (h : Heap) : Res (AVal) :=
lt (sqK (J_hold_Hold_Put_1 P call fuel k) k) fun k30 =>
obv (.val (t 0) h) fun v_31 =>
obv (nckR v_31 h) fun v_32 =>
obv (.of (fadR 2 v_32) h) fun v_33 =>
obv (.of (ld1 h v_33) h) fun v_34 =>
obv (.of (lenL v_34) h) fun v_35 =>
obv (.val (t 0) h) fun v_36 =>
obv (nckR v_36 h) fun v_37 =>
obv (.of (fadR 0 v_37) h) fun v_38 =>
obv (.of (ld1 h v_38) h) fun v_39 =>
obv (.of (aBin P .geq 3 (.tmp 33) (.tmp 37) v_35 v_39) h) fun v_40 =>
cb v_40 (
arb (.val (.int .i64 6) h) call fun v_41 h42 =>
k30 .ret (upd (upd (upd (upd (upd (upd (upd (upd (upd (upd (upd t 29 v_31) 30 v_32) 31 v_33) 32 v_34) 33 v_35) 34 v_36) 35 v_37) 36 v_38) 37 v_39) 38 v_40) 4 v_41) h42) (
k30 .normal (upd (upd (upd (upd (upd (upd (upd (upd (upd (upd t 29 v_31) 30 v_32) 31 v_33) 32 v_34) 33 v_35) 34 v_36) 35 v_37) 36 v_38) 37 v_39) 38 v_40) h)

def J_hold_Hold_Put_4 (P : Program) (call : FuncId → List AVal → Heap → Res AVal) (fuel : Nat) (k : Kn (Ex × T)) (t : T) (h : Heap) : Res (Ex × T) :=
arb (.of (aBin P .add 3 (.tmp 12) (.const (.int .i64 1)) (t 12) (.int .i64 1)) h) call fun v_59 h60 =>
arb (.val v_59 h60) call fun v_61 h62 =>
k .normal (upd (upd t 28 v_59) 12 v_61) h62

def J_hold_Hold_Put_3 (P : Program) (call : FuncId → List AVal → Heap → Res AVal) (fuel : Nat) (k : Kn (Ex × T)) (t : T) (h : Heap) : Res (Ex × T) :=
lt (sqK (J_hold_Hold_Put_4 P call fuel k) k) fun k63 =>
lt (blkK 1 k63) fun k64 =>
arb (.of (ixsR 7 (t 10) (t 12)) h) call fun v_65 h66 =>
arb (.of (ldn 7 h66 v_65) h66) call fun v_67 h68 =>
arb (newR [(.int .i64 0), (.int .i64 0), (.int .i64 0), (.int .i64 0), (.int .i64 0), .nils, .nils] h68) call fun x_69 h70 =>
arb (stR 7 h70 x_69 v_67) call fun v_71 h72 =>
arb (.of (fadR 0 x_69) h72) call fun v_73 h74 =>
arb (.of (ld1 h74 v_73) h74) call fun v_75 h76 =>
arb (.of (fadR 0 (t 3)) h76) call fun v_77 h78 =>
arb (.of (ld1 h78 v_77) h78) call fun v_79 h80 =>
arb (.of (aBin P .eql 3 (.tmp 17) (.tmp 19) v_75 v_79) h80) call fun v_81 h82 =>
arb (.val v_81 h82) call fun v_83 h84 =>
gd (wantB v_83 true) (fun c => arb (.of (fadR 2 x_69) h84) call c) h84 fun v_85 h86 =>
gd (wantB v_83 true) (fun c => arb (.of (ld1 h86 v_85) h86) call c) h86 fun v_87 h88 =>
gd (wantB v_83 true) (fun c => arb (.of (fadR 2 (t 3)) h88) call c) h88 fun v_89 h90 =>
gd (wantB v_83 true) (fun c => arb (.of (ld1 h90 v_89) h90) call c) h90 fun v_91 h92 =>
gd (wantB v_83 true) (fun c => arb (.of (aBin P .eql 3 (.tmp 23) (.tmp 25) v_87 v_91) h92) call c) h92 fun v_93 h94 =>
arb (pkR v_83 v_93 (.bool false) h94) call fun v_95 h96 =>
cb v_95 (
arb (.val (.int .i64 5) h96) call fun v_97 h98 =>
k64 .ret (upd (upd (upd (upd (upd (upd (upd (upd (upd (upd (upd (upd (upd (upd (upd (upd t 14 v_65) 15 v_67) 6 x_69) 16 v_73) 17 v_75) 18 v_77) 19 v_79) 20 v_81) 21 v_83) 22 v_85) 23 v_87) 24 v_89) 25 v_91) 26 v_93) 27 v_95) 4 v_97) h98) (
k64 .normal (upd (upd (upd (upd (upd (upd (upd (upd (upd (upd (upd (upd (upd (upd (upd t 14 v_65) 15 v_67) 6 x_69) 16 v_73) 17 v_75) 18 v_77) 19 v_79) 20 v_81) 21 v_83) 22 v_85) 23 v_87) 24 v_89) 25 v_91) 26 v_93) 27 v_95) h96)

def L_hold_Hold_Put_2 (P : Program) (call : FuncId → List AVal → Heap → Res AVal) (fuel : Nat) (t : T) (h : Heap) : Res (Ex × T) :=
lt okK fun k =>
arb (.of (aBin P .lss 3 (.tmp 12) (.tmp 11) (t 12) (t 11)) h) call fun v_57 h58 =>
lt (sqK (J_hold_Hold_Put_3 P call fuel k) k) fun k99 =>
cb v_57 (
k99 .normal (upd t 13 v_57) h58) (
k99 (.exit 0) (upd t 13 v_57) h58)

def S_hold_Hold_Put (P : Program) (call : FuncId → List AVal → Heap → Res AVal) (fuel : Nat) (h_a0 e_a1 : AVal) (h : Heap) : Res AVal :=
lt (retK P [.tmp 4]) fun k =>
arb (boxR e_a1 h) call fun e_0 h1 =>
arb (.val (.int .i64 0) h1) call fun v_2 h3 =>
lt (sqK (J_hold_Hold_Put_0 P call fuel k) k) fun k43 =>
arb (.val h_a0 h3) call fun v_44 h45 =>
arb (nckR v_44 h45) call fun v_46 h47 =>
arb (.of (fadR 2 v_46) h47) call fun v_48 h49 =>
arb (.of (ld1 h49 v_48) h49) call fun v_50 h51 =>
arb (.of (lenL v_50) h51) call fun v_52 h53 =>
arb (.val (.int .i64 0) h53) call fun v_54 h55 =>
lt (blkK 0 k43) fun k56 =>
(loopN (L_hold_Hold_Put_2 P call fuel) fuel (upd (upd (upd (upd (upd (upd (upd (upd (enterT [h_a0, e_a1]) 3 e_0) 4 v_2) 7 v_44) 8 v_46) 9 v_48) 10 v_50) 11 v_52) 12 v_54) h55).bind (lpK k56)
theorem E_hold_Hold_Put (call : FuncId → List AVal → Heap → Res AVal) (fuel : Nat) (h_a0 e_a1 : AVal) (h : Heap) : bodyR Try.prog call fuel Try.f10 [h_a0, e_a1] h = S_hold_Hold_Put Try.prog call fuel h_a0 e_a1 h := by kernel_rfl
theorem R_hold_Hold_Put {X : XTab} (h_a0 e_a1 : AVal) {h : Heap} {Q : AVal → Heap → Prop} (hx : X F_hold_Hold_Put [h_a0, e_a1] = none) (q : Tells (fun m => S_hold_Hold_Put Try.prog (acallX Try.prog X m) m h_a0 e_a1 h) Q) :
    Tells (fun m => acallX Try.prog X m F_hold_Hold_Put [h_a0, e_a1] h) Q :=
  Tells.later (q.le fun m => (E_hold_Hold_Put (acallX Try.prog X m) m h_a0 e_a1 h) ▸ acallX_le Try.func10 hx m h)

/-! ### (*precentor/hold.Hold).Next -/
def J_hold_Hold_Next_0 (P : Program) (call : FuncId → List AVal → Heap → Res AVal) (fuel : Nat) (k : Kn (AVal)) (t : T) (h : Heap) : Res (AVal) :=
arb (.of (bldR [(.int .i64 0), (.int .i64 0), (.int .i64 0), (.int .i64 0), (.int .i64 0), .nils, .nils] []) h) call fun v_4 h5 =>
arb (stR 7 h5 (t 2) v_4) call fun v_6 h7 =>
arb (.val (.bool false) h7) call fun v_8 h9 =>
k .ret (upd (upd t 53 v_4) 3 v_8) h9

def J_hold_Hold_Next_3 (P : Program) (call : FuncId → List AVal → Heap → Res AVal) (fuel : Nat) (k : Kn (Ex × T)) (t : T) (h : Heap) : Res (Ex × T) :=
arb (.of (aBin P .add 3 (.tmp 11) (.const (.int .i64 1)) (t 11) (.int .i64 1)) h) call fun v_26 h27 =>
arb (.val v_26 h27) call fun v_28 h29 =>
k .normal (upd (upd t 52 v_26) 11 v_28) h29

def J_hold_Hold_Next_2 (P : Program) (call : FuncId → List AVal → Heap → Res AVal) (fuel : Nat) (k : Kn (Ex × T)) (t : T) (h : Heap) : Res (Ex × T) :=
lt (sqK (J_hold_Hold_Next_3 P call fuel k) k) fun k30 =>
lt (blkK 1 k30) fun k31 =>
arb (.val (t 11) h) call fun v_32 h33 =>
arb (.of (ixsR 7 (t 9) (t 11)) h33) call fun v_34 h35 =>
arb (.of (ldn 7 h35 v_34) h35) call fun v_36 h37 =>
arb (newR [(.int .i64 0), (.int .i64 0), (.int .i64 0), (.int .i64 0), (.int .i64 0), .nils, .nils] h37) call fun e_38 h39 =>
arb (.val v_32 h39) call fun i_40 h41 =>
arb (stR 7 h41 e_38 v_36) call fun v_42 h43 =>
obv (.val (t 0) h43) fun v_44 =>
obv (nckR v_44 h43) fun v_46 =>
obv (.of (fadR 1 v_46) h43) fun v_48 =>
obv (.of (ldn 1 h43 v_48) h43) fun v_50 => ifb true <|
obv (.of (fadR 6 e_38) h43) fun v_52 =>
obv (.of (ld1 h43 v_52) h43) fun v_54 => ifb true <|
arbE (.call F_clock_Clock_Due [v_50, v_54] h43) call fun v_56 h57 => lt h57 fun g57 => ifb (true && true) <|
cb v_56 (
obv (.val (t 0) g57) fun v_58 =>
obv (.val (t 0) g57) fun v_60 =>
obv (nckR v_60 g57) fun v_62 =>
obv (.of (fadR 1 v_62) g57) fun v_64 =>
obv (.of (ldn 1 g57 v_64) g57) fun v_66 => ifb true <|
obv (.of (fadR 6 e_38) g57) fun v_68 =>
obv (.of (ld1 g57 v_68) g57) fun v_70 => ifb true <|
arbE (.call F_clock_Clock_Take [v_66, v_70] g57) call fun v_72 h73 => lt h73 fun g73 => ifb (true && true) <|
obv (nckR v_58 g73) fun v_74 =>
obv (.of (fadR 1 v_74) g73) fun v_76 =>
arbE (stR 1 g73 v_76 v_72) call fun v_78 h79 => lt h79 fun g79 => ifb (true && true) <|
obv (.val (t 0) g79) fun v_80 =>
obv (.val (t 0) g79) fun v_82 =>
obv (nckR v_82 g79) fun v_84 =>
obv (.of (fadR 2 v_84) g79) fun v_86 =>
obv (.of (ld1 g79 v_86) g79) fun v_88 => ifb true <|
obv (.val i_40 g79) fun v_90 =>
obv (.val i_40 g79) fun v_92 =>
obv (.of (slcR 7 v_88 none (some v_90) (some v_92)) g79) fun v_94 =>
obv (.val (t 0) g79) fun v_96 =>
obv (nckR v_96 g79) fun v_98 =>
obv (.of (fadR 2 v_98) g79) fun v_100 =>
obv (.of (ld1 g79 v_100) g79) fun v_102 => ifb true <|
obv (.val i_40 g79) fun v_104 =>
obv (.of (aBin P .add 3 (.tmp 45) (.const (.int .i64 1)) v_104 (.int .i64 1)) g79) fun v_106 =>
obv (.of (slcR 7 v_102 (some v_106) none none) g79) fun v_108 =>
arbE (appR 7 88 g79 v_94 v_108) call fun v_110 h111 => lt h111 fun g111 => ifb (true && true) <|
obv (nckR v_80 g111) fun v_112 =>
obv (.of (fadR 2 v_112) g111) fun v_114 =>
arbE (stR 1 g111 v_114 v_110) call fun v_116 h117 => lt h117 fun g117 => ifb (true && true) <|
arb (.of (ldn 7 g117 e_38) g117) call fun v_118 h119 =>
arb (stR 7 h119 (t 2) v_118) call fun v_120 h121 =>
arb (.val (.bool true) h121) call fun v_122 h123 =>
k31 .ret (upd (upd (upd (upd (upd (upd (upd (upd (upd (upd (upd (upd (upd (upd (upd (upd (upd (upd (upd (upd (upd (upd (upd (upd (upd (upd (upd (upd (upd (upd (upd (upd (upd (upd (upd (upd (upd (upd (upd (upd (upd (upd t 13 v_32) 14 v_34) 15 v_36) 5 e_38) 4 i_40) 16 v_44) 17 v_46) 18 v_48) 19 v_50) 20 v_52) 21 v_54) 22 v_56) 23 v_58) 24 v_60) 25 v_62) 26 v_64) 27 v_66) 28 v_68) 29 v_70) 30 v_72) 31 v_74) 32 v_76) 33 v_80) 34 v_82) 35 v_84) 36 v_86) 37 v_88) 38 v_90) 39 v_92) 40 v_94) 41 v_96) 42 v_98) 43 v_100) 44 v_102) 45 v_104) 46 v_106) 47 v_108) 48 v_110) 49 v_112) 50 v_114) 51 v_118) 3 v_122) h123) (
k31 .normal (upd (upd (upd (upd (upd (upd (upd (upd (upd (upd (upd (upd t 13 v_32) 14 v_34) 15 v_36) 5 e_38) 4 i_40) 16 v_44) 17 v_46) 18 v_48) 19 v_50) 20 v_52) 21 v_54) 22 v_56) g57)

def L_hold_Hold_Next_1 (P : Program) (call : FuncId → List AVal → Heap → Res AVal) (fuel : Nat) (t : T) (h : Heap) : Res (Ex × T) :=
lt okK fun k =>
arb (.of (aBin P .lss 3 (.tmp 11) (.tmp 10) (t 11) (t 10)) h) call fun v_24 h25 =>
lt (sqK (J_hold_Hold_Next_2 P call fuel k) k) fun k124 =>
cb v_24 (
k124 .normal (upd t 12 v_24) h25) (
k124 (.exit 0) (upd t 12 v_24) h25)

theorem C_hold_Hold_Next_0 (h : Heap) (a : AVal) : aLoad Try.prog h 32 a = ldn 7 h a := by kernel_rfl
def S_hold_Hold_Next (P : Program) (call : FuncId → List AVal → Heap → Res AVal) (fuel : Nat) (h_a0 : AVal) (h : Heap) : Res AVal :=
lt (retK P [.cell 2 32, .tmp 3]) fun k =>
arb (newR [(.int .i64 0), (.int .i64 0), (.int .i64 0), (.int .i64 0), (.int .i64 0), .nils, .nils] h) call fun v_0 h1 =>
arb (.val (.bool false) h1) call fun v_2 h3 =>
lt (sqK (J_hold_Hold_Next_0 P call fuel k) k) fun k10 =>
arb (.val h_a0 h3) call fun v_11 h12 =>
arb (nckR v_11 h12) call fun v_13 h14 =>
arb (.of (fadR 2 v_13) h14) call fun v_15 h16 =>
arb (.of (ld1 h16 v_15) h16) call fun v_17 h18 =>
arb (.of (lenL v_17) h18) call fun v_19 h20 =>
arb (.val (.int .i64 0) h20) call fun v_21 h22 =>
lt (blkK 0 k10) fun k23 =>
(loopN (L_hold_Hold_Next_1 P call fuel) fuel (upd (upd (upd (upd (upd (upd (upd (upd (enterT [h_a0]) 2 v_0) 3 v_2) 6 v_11) 7 v_13) 8 v_15) 9 v_17) 10 v_19) 11 v_21) h22).bind (lpK k23)
theorem E_hold_Hold_Next (call : FuncId → List AVal → Heap → Res AVal) (fuel : Nat) (h_a0 : AVal) (h : Heap) : bodyR Try.prog call fuel Try.f11 [h_a0] h = S_hold_Hold_Next Try.prog call fuel h_a0 h := by kernel_rfl
theorem R_hold_Hold_Next {X : XTab} (h_a0 : AVal) {h : Heap} {Q : AVal → Heap → Prop} (hx : X F_hold_Hold_Next [h_a0] = none) (q : Tells (fun m => S_hold_Hold_Next Try.prog (acallX Try.prog X m) m h_a0 h) Q) :
    Tells (fun m => acallX Try.prog X m F_hold_Hold_Next [h_a0] h) Q :=
  Tells.later (q.le fun m => (E_hold_Hold_Next (acallX Try.prog X m) m h_a0 h) ▸ acallX_le Try.func11 hx m h)

/-! ### (*precentor/hold.Hold).Len -/

def S_hold_Hold_Len (P : Program) (call : FuncId → List AVal → Heap → Res AVal) (fuel : Nat) (h_a0 : AVal) (h : Heap) : Res AVal :=
lt (retK P [.tmp 2]) fun k =>
arb (.val (.int .i64 0) h) call fun v_0 h1 =>
arb (.val h_a0 h1) call fun v_2 h3 =>
arb (nckR v_2 h3) call fun v_4 h5 =>
arb (.of (fadR 2 v_4) h5) call fun v_6 h7 =>
arb (.of (ld1 h7 v_6) h7) call fun v_8 h9 =>
arb (.of (lenL v_8) h9) call fun v_10 h11 =>
arb (.val v_10 h11) call fun v_12 h13 =>
k .ret (upd (upd (upd (upd (upd (upd (upd (enterT [h_a0]) 2 v_0) 3 v_2) 4 v_4) 5 v_6) 6 v_8) 7 v_10) 2 v_12) h13
theorem E_hold_Hold_Len (call : FuncId → List AVal → Heap → Res AVal) (fuel : Nat) (h_a0 : AVal) (h : Heap) : bodyR Try.prog call fuel Try.f12 [h_a0] h = S_hold_Hold_Len Try.prog call fuel h_a0 h := by kernel_rfl
theorem R_hold_Hold_Len {X : XTab} (h_a0 : AVal) {h : Heap} {Q : AVal → Heap → Prop} (hx : X F_hold_Hold_Len [h_a0] = none) (q : Tells (fun m => S_hold_Hold_Len Try.prog (acallX Try.prog X m) m h_a0 h) Q) :
    Tells (fun m => acallX Try.prog X m F_hold_Hold_Len [h_a0] h) Q :=
  Tells.later (q.le fun m => (E_hold_Hold_Len (acallX Try.prog X m) m h_a0 h) ▸ acallX_le Try.func12 hx m h)

/-! ### (*precentor/hold.Hold).Clock -/

theorem C_hold_Hold_Clock_0 (h : Heap) (a : AVal) : aLoad Try.prog h 63 a = ldn 1 h a := by kernel_rfl
def S_hold_Hold_Clock (P : Program) (call : FuncId → List AVal → Heap → Res AVal) (fuel : Nat) (h_a0 : AVal) (h : Heap) : Res AVal :=
lt (retK P [.cell 2 63]) fun k =>
arb (newR [.nils] h) call fun v_0 h1 =>
arb (.val h_a0 h1) call fun v_2 h3 =>
arb (nckR v_2 h3) call fun v_4 h5 =>
arb (.of (fadR 1 v_4) h5) call fun v_6 h7 =>
arb (.of (ldn 1 h7 v_6) h7) call fun v_8 h9 =>
arb (stR 1 h9 v_0 v_8) call fun v_10 h11 =>
k .ret (upd (upd (upd (upd (upd (enterT [h_a0]) 2 v_0) 3 v_2) 4 v_4) 5 v_6) 6 v_8) h11
theorem E_hold_Hold_Clock (call : FuncId → List AVal → Heap → Res AVal) (fuel : Nat) (h_a0 : AVal) (h : Heap) : bodyR Try.prog call fuel Try.f20 [h_a0] h = S_hold_Hold_Clock Try.prog call fuel h_a0 h := by kernel_rfl
theorem R_hold_Hold_Clock {X : XTab} (h_a0 : AVal) {h : Heap} {Q : AVal → Heap → Prop} (hx : X F_hold_Hold_Clock [h_a0] = none) (q : Tells (fun m => S_hold_Hold_Clock Try.prog (acallX Try.prog X m) m h_a0 h) Q) :
    Tells (fun m => acallX Try.prog X m F_hold_Hold_Clock [h_a0] h) Q :=
  Tells.later (q.le fun m => (E_hold_Hold_Clock (acallX Try.prog X m) m h_a0 h) ▸ acallX_le Try.func20 hx m h)

/-! ### precentor/hold.clone -/

theorem C_hold_clone_0 (h : Heap) (a : AVal) : aLoad Try.prog h 32 a = ldn 7 h a := by kernel_rfl
def S_hold_clone (P : Program) (call : FuncId → List AVal → Heap → Res AVal) (fuel : Nat) (e_a0 : AVal) (h : Heap) : Res AVal :=
lt (retK P [.cell 2 32]) fun k =>
arb (boxR e_a0 h) call fun e_0 h1 =>
arb (newR [(.int .i64 0), (.int .i64 0), (.int .i64 0), (.int .i64 0), (.int .i64 0), .nils, .nils] h1) call fun v_2 h3 =>
arb (.of (fadR 5 e_0) h3) call fun v_4 h5 =>
arb (.of (ld1 h5 v_4) h5) call fun v_6 h7 =>
arb (appR 6 64 h7 .nils v_6) call fun v_8 h9 =>
arb (.of (fadR 5 e_0) h9) call fun v_10 h11 =>
arb (stR 1 h11 v_10 v_8) call fun v_12 h13 =>
arb (.of (fadR 6 e_0) h13) call fun v_14 h15 =>
arb (.of (ld1 h15 v_14) h15) call fun v_16 h17 =>
arb (appR 2 16 h17 .nils v_16) call fun v_18 h19 =>
arb (.of (fadR 6 e_0) h19) call fun v_20 h21 =>
arb (stR 1 h21 v_20 v_18) call fun v_22 h23 =>
arb (.of (ldn 7 h23 e_0) h23) call fun v_24 h25 =>
arb (stR 7 h25 v_2 v_24) call fun v_26 h27 =>
k .ret (upd (upd (upd (upd (upd (upd (upd (upd (upd (upd (upd (enterT [e_a0]) 1 e_0) 2 v_2) 3 v_4) 4 v_6) 5 v_8) 6 v_10) 7 v_14) 8 v_16) 9 v_18) 10 v_20) 11 v_24) h27
theorem E_hold_clone (call : FuncId → List AVal → Heap → Res AVal) (fuel : Nat) (e_a0 : AVal) (h : Heap) : bodyR Try.prog call fuel Try.f23 [e_a0] h = S_hold_clone Try.prog call fuel e_a0 h := by kernel_rfl
theorem R_hold_clone {X : XTab} (e_a0 : AVal) {h : Heap} {Q : AVal → Heap → Prop} (hx : X F_hold_clone [e_a0] = none) (q : Tells (fun m => S_hold_clone Try.prog (acallX Try.prog X m) m e_a0 h) Q) :
    Tells (fun m => acallX Try.prog X m F_hold_clone [e_a0] h) Q :=
  Tells.later (q.le fun m => (E_hold_clone (acallX Try.prog X m) m e_a0 h) ▸ acallX_le Try.func23 hx m h)


end Go.Proofs.Ytbpbdigehfkjjaa
