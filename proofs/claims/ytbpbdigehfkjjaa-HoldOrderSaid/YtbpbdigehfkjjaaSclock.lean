/-
  Functions of clock in the form of YtbpbdigehfkjjaaABS (printed by a program of ours, gen.lean).
-/
import Derived.Test.YtbpbdigehfkjjaaSIds
set_option linter.unusedVariables false
namespace Go.Proofs.Ytbpbdigehfkjjaa
open Go.Ab
/-! ### precentor/clock.New -/
def J_clock_New_0 (P : Program) (call : FuncId → List AVal → Heap → Res AVal) (fuel : Nat) (k : Kn (AVal)) (t : T) (h : Heap) : Res (AVal) :=
arb (.of (ldn 1 h (t 3)) h) call fun v_4 h5 =>
arb (stR 1 h5 (t 2) v_4) call fun v_6 h7 =>
k .ret (upd t 67 v_4) h7

def J_clock_New_3 (P : Program) (call : FuncId → List AVal → Heap → Res AVal) (fuel : Nat) (k : Kn (Ex × T)) (t : T) (h : Heap) : Res (Ex × T) :=
arb (.of (aBin P .add 3 (.tmp 10) (.const (.int .i64 1)) (t 10) (.int .i64 1)) h) call fun v_18 h19 =>
arb (.val v_18 h19) call fun v_20 h21 =>
k .normal (upd (upd t 66 v_18) 10 v_20) h21

def J_clock_New_5 (P : Program) (call : FuncId → List AVal → Heap → Res AVal) (fuel : Nat) (k : Kn (Ex × T)) (t : T) (h : Heap) : Res (Ex × T) :=
arb (.of (fadR 0 (t 3)) h) call fun v_32 h33 =>
arb (.of (ld1 h33 v_32) h33) call fun v_34 h35 =>
arb (.val (t 6) h35) call fun v_36 h37 =>
arb (.of (slcR 2 v_34 none (some v_36) none) h37) call fun v_38 h39 =>
arb (appR 2 16 h39 .nils v_38) call fun v_40 h41 =>
arb (.val v_40 h41) call fun out_42 h43 =>
obv (.val out_42 h43) fun v_44 =>
obv (.val (t 5) h43) fun v_46 =>
obv (.of (bldR [(.int .i64 0), (.int .i64 0)] [(0, 1, v_46), (1, 1, (.int .i64 1))]) h43) fun v_48 =>
arbV (bslR 2 [(.int .i64 0), (.int .i64 0)] 1 h43 [(0, 2, v_48)]) fun v_50 h51 =>
arbE (appR 2 16 h51 v_44 v_50) call fun v_52 h53 => lt h53 fun g53 => ifb (true && true) <|
obv (.of (fadR 0 (t 3)) g53) fun v_54 =>
obv (.of (ld1 (killIf true g53 h43.next) v_54) (killIf true g53 h43.next)) fun v_56 => ifb (isV v_56 (arVal (.of (ld1 (killIf true h51 h43.next) v_54) (killIf true h51 h43.next))) && true) <|
obv (.val (t 6) g53) fun v_58 =>
obv (.of (slcR 2 v_56 (some v_58) none none) g53) fun v_60 =>
arbE (appR 2 16 g53 v_52 v_60) call fun v_62 h63 => lt h63 fun g63 => ifb (true && true) <|
obv (.of (fadR 0 (t 3)) g63) fun v_64 =>
arbE (stR 1 g63 v_64 v_62) call fun v_66 h67 => lt h67 fun g67 => ifb (true && true) <|
k .normal (upd (upd (upd (upd (upd (upd (upd (upd (upd (upd (upd (upd (upd (upd (upd (upd (upd t 50 v_32) 51 v_34) 52 v_36) 53 v_38) 54 v_40) 7 out_42) 55 v_44) 56 v_46) 57 v_48) 58 v_50) 59 v_52) 60 v_54) 61 v_56) 62 v_58) 63 v_60) 64 v_62) 65 v_64) g67

def J_clock_New_4 (P : Program) (call : FuncId → List AVal → Heap → Res AVal) (fuel : Nat) (k : Kn (Ex × T)) (t : T) (h : Heap) : Res (Ex × T) :=
lt (sqK (J_clock_New_5 P call fuel k) k) fun k68 =>
arb (.val (t 5) h) call fun v_69 h70 =>
arb (.of (aBin P .lss 3 (.tmp 31) (.const (.int .i64 0)) v_69 (.int .i64 0)) h70) call fun v_71 h72 =>
arb (.val v_71 h72) call fun v_73 h74 =>
gd (wantB v_73 false) (fun c => arb (.val (t 6) h74) call c) h74 fun v_75 h76 =>
gd (wantB v_73 false) (fun c => arb (.of (fadR 0 (t 3)) h76) call c) h76 fun v_77 h78 =>
gd (wantB v_73 false) (fun c => arb (.of (ld1 h78 v_77) h78) call c) h78 fun v_79 h80 =>
gd (wantB v_73 false) (fun c => arb (.of (lenL v_79) h80) call c) h80 fun v_81 h82 =>
gd (wantB v_73 false) (fun c => arb (.of (aBin P .lss 3 (.tmp 34) (.tmp 37) v_75 v_81) h82) call c) h82 fun v_83 h84 =>
gd (wantB v_73 false) (fun c => arb (.val v_83 h84) call c) h84 fun v_85 h86 =>
gd (wantB v_85 true) (fun c => arb (.of (fadR 0 (t 3)) h86) call c) h86 fun v_87 h88 =>
gd (wantB v_85 true) (fun c => arb (.of (ld1 h88 v_87) h88) call c) h88 fun v_89 h90 =>
gd (wantB v_85 true) (fun c => arb (.val (t 6) h90) call c) h90 fun v_91 h92 =>
gd (wantB v_85 true) (fun c => arb (.of (ixsR 2 v_89 v_91) h92) call c) h92 fun v_93 h94 =>
gd (wantB v_85 true) (fun c => arb (.of (fadR 0 v_93) h94) call c) h94 fun v_95 h96 =>
gd (wantB v_85 true) (fun c => arb (.of (ld1 h96 v_95) h96) call c) h96 fun v_97 h98 =>
gd (wantB v_85 true) (fun c => arb (.val (t 5) h98) call c) h98 fun v_99 h100 =>
gd (wantB v_85 true) (fun c => arb (.of (aBin P .eql 3 (.tmp 45) (.tmp 46) v_97 v_99) h100) call c) h100 fun v_101 h102 =>
gd (wantB v_73 false) (fun c => arb (pkR v_85 v_101 (.bool false) h102) call c) h102 fun v_103 h104 =>
arb (pkR v_73 (.bool true) v_103 h104) call fun v_105 h106 =>
cb v_105 (
k68 (.exit 1) (upd (upd (upd (upd (upd (upd (upd (upd (upd (upd (upd (upd (upd (upd (upd (upd (upd (upd (upd t 31 v_69) 32 v_71) 33 v_73) 34 v_75) 35 v_77) 36 v_79) 37 v_81) 38 v_83) 39 v_85) 40 v_87) 41 v_89) 42 v_91) 43 v_93) 44 v_95) 45 v_97) 46 v_99) 47 v_101) 48 v_103) 49 v_105) h106) (
k68 .normal (upd (upd (upd (upd (upd (upd (upd (upd (upd (upd (upd (upd (upd (upd (upd (upd (upd (upd (upd t 31 v_69) 32 v_71) 33 v_73) 34 v_75) 35 v_77) 36 v_79) 37 v_81) 38 v_83) 39 v_85) 40 v_87) 41 v_89) 42 v_91) 43 v_93) 44 v_95) 45 v_97) 46 v_99) 47 v_101) 48 v_103) 49 v_105) h106)

def J_clock_New_7 (P : Program) (call : FuncId → List AVal → Heap → Res AVal) (fuel : Nat) (k : Kn (Ex × T)) (t : T) (h : Heap) : Res (Ex × T) :=
lt (blkK 3 k) fun k109 =>
arb (.val (t 6) h) call fun v_110 h111 =>
arb (.of (aBin P .add 3 (.tmp 29) (.const (.int .i64 1)) v_110 (.int .i64 1)) h111) call fun v_112 h113 =>
arb (.val v_112 h113) call fun at_114 h115 =>
k109 .normal (upd (upd (upd t 29 v_110) 30 v_112) 6 at_114) h115

def L_clock_New_6 (P : Program) (call : FuncId → List AVal → Heap → Res AVal) (fuel : Nat) (t : T) (h : Heap) : Res (Ex × T) :=
lt okK fun k =>
lt (sqK (J_clock_New_7 P call fuel k) k) fun k116 =>
arb (.val (t 6) h) call fun v_117 h118 =>
arb (.of (fadR 0 (t 3)) h118) call fun v_119 h120 =>
arb (.of (ld1 h120 v_119) h120) call fun v_121 h122 =>
arb (.of (lenL v_121) h122) call fun v_123 h124 =>
arb (.of (aBin P .lss 3 (.tmp 14) (.tmp 17) v_117 v_123) h124) call fun v_125 h126 =>
arb (.val v_125 h126) call fun v_127 h128 =>
gd (wantB v_127 true) (fun c => arb (.of (fadR 0 (t 3)) h128) call c) h128 fun v_129 h130 =>
gd (wantB v_127 true) (fun c => arb (.of (ld1 h130 v_129) h130) call c) h130 fun v_131 h132 =>
gd (wantB v_127 true) (fun c => arb (.val (t 6) h132) call c) h132 fun v_133 h134 =>
gd (wantB v_127 true) (fun c => arb (.of (ixsR 2 v_131 v_133) h134) call c) h134 fun v_135 h136 =>
gd (wantB v_127 true) (fun c => arb (.of (fadR 0 v_135) h136) call c) h136 fun v_137 h138 =>
gd (wantB v_127 true) (fun c => arb (.of (ld1 h138 v_137) h138) call c) h138 fun v_139 h140 =>
gd (wantB v_127 true) (fun c => arb (.val (t 5) h140) call c) h140 fun v_141 h142 =>
gd (wantB v_127 true) (fun c => arb (.of (aBin P .lss 3 (.tmp 25) (.tmp 26) v_139 v_141) h142) call c) h142 fun v_143 h144 =>
arb (pkR v_127 v_143 (.bool false) h144) call fun v_145 h146 =>
cb v_145 (
k116 .normal (upd (upd (upd (upd (upd (upd (upd (upd (upd (upd (upd (upd (upd (upd (upd t 14 v_117) 15 v_119) 16 v_121) 17 v_123) 18 v_125) 19 v_127) 20 v_129) 21 v_131) 22 v_133) 23 v_135) 24 v_137) 25 v_139) 26 v_141) 27 v_143) 28 v_145) h146) (
k116 (.exit 2) (upd (upd (upd (upd (upd (upd (upd (upd (upd (upd (upd (upd (upd (upd (upd t 14 v_117) 15 v_119) 16 v_121) 17 v_123) 18 v_125) 19 v_127) 20 v_129) 21 v_131) 22 v_133) 23 v_135) 24 v_137) 25 v_139) 26 v_141) 27 v_143) 28 v_145) h146)

def J_clock_New_2 (P : Program) (call : FuncId → List AVal → Heap → Res AVal) (fuel : Nat) (k : Kn (Ex × T)) (t : T) (h : Heap) : Res (Ex × T) :=
lt (sqK (J_clock_New_3 P call fuel k) k) fun k22 =>
lt (blkK 1 k22) fun k23 =>
arb (.of (ixsR 1 (t 8) (t 10)) h) call fun v_24 h25 =>
arb (.of (ld1 h25 v_24) h25) call fun v_26 h27 =>
arb (.val v_26 h27) call fun p_28 h29 =>
arb (.val (.int .i64 0) h29) call fun at_30 h31 =>
lt (sqK (J_clock_New_4 P call fuel k23) k23) fun k107 =>
lt (blkK 2 k107) fun k108 =>
(loopN (L_clock_New_6 P call fuel) fuel (upd (upd (upd (upd t 12 v_24) 13 v_26) 5 p_28) 6 at_30) h31).bind (lpK k108)

def L_clock_New_1 (P : Program) (call : FuncId → List AVal → Heap → Res AVal) (fuel : Nat) (t : T) (h : Heap) : Res (Ex × T) :=
lt okK fun k =>
arb (.of (aBin P .lss 3 (.tmp 10) (.tmp 9) (t 10) (t 9)) h) call fun v_16 h17 =>
lt (sqK (J_clock_New_2 P call fuel k) k) fun k147 =>
cb v_16 (
k147 .normal (upd t 11 v_16) h17) (
k147 (.exit 0) (upd t 11 v_16) h17)

theorem C_clock_New_0 (h : Heap) (a : AVal) : aLoad Try.prog h 63 a = ldn 1 h a := by kernel_rfl
def S_clock_New (P : Program) (call : FuncId → List AVal → Heap → Res AVal) (fuel : Nat) (own_a0 : AVal) (h : Heap) : Res AVal :=
lt (retK P [.cell 2 63]) fun k =>
arb (newR [.nils] h) call fun v_0 h1 =>
arb (newR [.nils] h1) call fun c_2 h3 =>
lt (sqK (J_clock_New_0 P call fuel k) k) fun k8 =>
arb (.val own_a0 h3) call fun v_9 h10 =>
arb (.of (lenL v_9) h10) call fun v_11 h12 =>
arb (.val (.int .i64 0) h12) call fun v_13 h14 =>
lt (blkK 0 k8) fun k15 =>
(loopN (L_clock_New_1 P call fuel) fuel (upd (upd (upd (upd (upd (enterT [own_a0]) 2 v_0) 3 c_2) 8 v_9) 9 v_11) 10 v_13) h14).bind (lpK k15)
theorem E_clock_New (call : FuncId → List AVal → Heap → Res AVal) (fuel : Nat) (own_a0 : AVal) (h : Heap) : bodyR Try.prog call fuel Try.f21 [own_a0] h = S_clock_New Try.prog call fuel own_a0 h := by kernel_rfl
theorem R_clock_New {X : XTab} (own_a0 : AVal) {h : Heap} {Q : AVal → Heap → Prop} (hx : X F_clock_New [own_a0] = none) (q : Tells (fun m => S_clock_New Try.prog (acallX Try.prog X m) m own_a0 h) Q) :
    Tells (fun m => acallX Try.prog X m F_clock_New [own_a0] h) Q :=
  Tells.later (q.le fun m => (E_clock_New (acallX Try.prog X m) m own_a0 h) ▸ acallX_le Try.func21 hx m h)

/-! ### (precentor/clock.Clock).Due -/
def J_clock_Clock_Due_0 (P : Program) (call : FuncId → List AVal → Heap → Res AVal) (fuel : Nat) (k : Kn (AVal)) (t : T) (h : Heap) : Res (AVal) :=
arb (.val (.bool true) h) call fun v_4 h5 =>
k .ret (upd t 4 v_4) h5

def J_clock_Clock_Due_3 (P : Program) (call : FuncId → List AVal → Heap → Res AVal) (fuel : Nat) (k : Kn (Ex × T)) (t : T) (h : Heap) : Res (Ex × T) :=
arb (.of (aBin P .add 3 (.tmp 10) (.const (.int .i64 1)) (t 10) (.int .i64 1)) h) call fun v_16 h17 =>
arb (.val v_16 h17) call fun v_18 h19 =>
k .normal (upd (upd t 45 v_16) 10 v_18) h19

def J_clock_Clock_Due_4 (P : Program) (call : FuncId → List AVal → Heap → Res AVal) (fuel : Nat) (k : Kn (Ex × T)) (t : T) (h : Heap) : Res (Ex × T) :=
arb (.of (ldn 1 h (t 2)) h) call fun v_34 h35 =>
arb (.of (fadR 0 (t 6)) h35) call fun v_36 h37 =>
arb (.of (ld1 h37 v_36) h37) call fun v_38 h39 =>
arb (.call F_clock_Clock_find [v_34, v_38] h39) call fun v_40 h41 =>
arb (.val v_40 h41) call fun k_42 h43 =>
obv (.val k_42 h43) fun v_44 =>
obv (.of (aBin P .geq 3 (.tmp 32) (.const (.int .i64 0)) v_44 (.int .i64 0)) h43) fun v_45 =>
obv (.val v_45 h43) fun v_46 =>
gd (wantB v_46 true) (fun c => obv (.of (fadR 0 (t 2)) h43) fun v => c v h43) h43 fun v_47 h48 =>
gd (wantB v_46 true) (fun c => obv (.of (ld1 h48 v_47) h48) fun v => c v h48) h48 fun v_49 h50 =>
gd (wantB v_46 true) (fun c => obv (.val k_42 h50) fun v => c v h50) h50 fun v_51 h52 =>
gd (wantB v_46 true) (fun c => obv (.of (ixsR 2 v_49 v_51) h52) fun v => c v h52) h52 fun v_53 h54 =>
gd (wantB v_46 true) (fun c => obv (.of (fadR 1 v_53) h54) fun v => c v h54) h54 fun v_55 h56 =>
gd (wantB v_46 true) (fun c => obv (.of (ld1 h56 v_55) h56) fun v => c v h56) h56 fun v_57 h58 =>
gd (wantB v_46 true) (fun c => obv (.of (fadR 1 (t 6)) h58) fun v => c v h58) h58 fun v_59 h60 =>
gd (wantB v_46 true) (fun c => obv (.of (ld1 h60 v_59) h60) fun v => c v h60) h60 fun v_61 h62 =>
gd (wantB v_46 true) (fun c => obv (.of (aBin P .neq 3 (.tmp 40) (.tmp 42) v_57 v_61) h62) fun v => c v h62) h62 fun v_63 h64 =>
obv (pkR v_46 v_63 (.bool false) h64) fun v_65 =>
cb v_65 (
arb (.val (.bool false) h64) call fun v_66 h67 =>
k .ret (upd (upd (upd (upd (upd (upd (upd (upd (upd (upd (upd (upd (upd (upd (upd (upd (upd (upd (upd t 28 v_34) 29 v_36) 30 v_38) 31 v_40) 7 k_42) 32 v_44) 33 v_45) 34 v_46) 35 v_47) 36 v_49) 37 v_51) 38 v_53) 39 v_55) 40 v_57) 41 v_59) 42 v_61) 43 v_63) 44 v_65) 4 v_66) h67) (
k .normal (upd (upd (upd (upd (upd (upd (upd (upd (upd (upd (upd (upd (upd (upd (upd (upd (upd (upd t 28 v_34) 29 v_36) 30 v_38) 31 v_40) 7 k_42) 32 v_44) 33 v_45) 34 v_46) 35 v_47) 36 v_49) 37 v_51) 38 v_53) 39 v_55) 40 v_57) 41 v_59) 42 v_61) 43 v_63) 44 v_65) h64)

def J_clock_Clock_Due_2 (P : Program) (call : FuncId → List AVal → Heap → Res AVal) (fuel : Nat) (k : Kn (Ex × T)) (t : T) (h : Heap) : Res (Ex × T) :=
lt (sqK (J_clock_Clock_Due_3 P call fuel k) k) fun k20 =>
lt (blkK 1 k20) fun k21 =>
arb (.val (t 10) h) call fun v_22 h23 =>
arb (.of (ixsR 2 (t 8) (t 10)) h23) call fun v_24 h25 =>
arb (.of (ldn 2 h25 v_24) h25) call fun v_26 h27 =>
arb (newR [(.int .i64 0), (.int .i64 0)] h27) call fun s_28 h29 =>
arb (.val v_22 h29) call fun i_30 h31 =>
arb (stR 2 h31 s_28 v_26) call fun v_32 h33 =>
lt (sqK (J_clock_Clock_Due_4 P call fuel k21) k21) fun k68 =>
obv (.val i_30 h33) fun v_69 =>
obv (.of (aBin P .gtr 3 (.tmp 15) (.const (.int .i64 0)) v_69 (.int .i64 0)) h33) fun v_70 =>
obv (.val v_70 h33) fun v_71 =>
gd (wantB v_71 true) (fun c => obv (.val (t 1) h33) fun v => c v h33) h33 fun v_72 h73 =>
gd (wantB v_71 true) (fun c => obv (.val i_30 h73) fun v => c v h73) h73 fun v_74 h75 =>
gd (wantB v_71 true) (fun c => obv (.of (aBin P .sub 3 (.tmp 19) (.const (.int .i64 1)) v_74 (.int .i64 1)) h75) fun v => c v h75) h75 fun v_76 h77 =>
gd (wantB v_71 true) (fun c => obv (.of (ixsR 2 v_72 v_76) h77) fun v => c v h77) h77 fun v_78 h79 =>
gd (wantB v_71 true) (fun c => obv (.of (fadR 0 v_78) h79) fun v => c v h79) h79 fun v_80 h81 =>
gd (wantB v_71 true) (fun c => obv (.of (ld1 h81 v_80) h81) fun v => c v h81) h81 fun v_82 h83 =>
gd (wantB v_71 true) (fun c => obv (.of (fadR 0 s_28) h83) fun v => c v h83) h83 fun v_84 h85 =>
gd (wantB v_71 true) (fun c => obv (.of (ld1 h85 v_84) h85) fun v => c v h85) h85 fun v_86 h87 =>
gd (wantB v_71 true) (fun c => obv (.of (aBin P .geq 3 (.tmp 23) (.tmp 25) v_82 v_86) h87) fun v => c v h87) h87 fun v_88 h89 =>
obv (pkR v_71 v_88 (.bool false) h89) fun v_90 =>
cb v_90 (
arb (.val (.bool false) h89) call fun v_91 h92 =>
k68 .ret (upd (upd (upd (upd (upd (upd (upd (upd (upd (upd (upd (upd (upd (upd (upd (upd (upd (upd (upd t 12 v_22) 13 v_24) 14 v_26) 6 s_28) 5 i_30) 15 v_69) 16 v_70) 17 v_71) 18 v_72) 19 v_74) 20 v_76) 21 v_78) 22 v_80) 23 v_82) 24 v_84) 25 v_86) 26 v_88) 27 v_90) 4 v_91) h92) (
k68 .normal (upd (upd (upd (upd (upd (upd (upd (upd (upd (upd (upd (upd (upd (upd (upd (upd (upd (upd t 12 v_22) 13 v_24) 14 v_26) 6 s_28) 5 i_30) 15 v_69) 16 v_70) 17 v_71) 18 v_72) 19 v_74) 20 v_76) 21 v_78) 22 v_80) 23 v_82) 24 v_84) 25 v_86) 26 v_88) 27 v_90) h89)

def L_clock_Clock_Due_1 (P : Program) (call : FuncId → List AVal → Heap → Res AVal) (fuel : Nat) (t : T) (h : Heap) : Res (Ex × T) :=
lt okK fun k =>
arb (.of (aBin P .lss 3 (.tmp 10) (.tmp 9) (t 10) (t 9)) h) call fun v_14 h15 =>
lt (sqK (J_clock_Clock_Due_2 P call fuel k) k) fun k93 =>
cb v_14 (
k93 .normal (upd t 11 v_14) h15) (
k93 (.exit 0) (upd t 11 v_14) h15)

def S_clock_Clock_Due (P : Program) (call : FuncId → List AVal → Heap → Res AVal) (fuel : Nat) (c_a0 l_a1 : AVal) (h : Heap) : Res AVal :=
lt (retK P [.tmp 4]) fun k =>
arb (boxR c_a0 h) call fun c_0 h1 =>
arb (.val (.bool false) h1) call fun v_2 h3 =>
lt (sqK (J_clock_Clock_Due_0 P call fuel k) k) fun k6 =>
arb (.val l_a1 h3) call fun v_7 h8 =>
arb (.of (lenL v_7) h8) call fun v_9 h10 =>
arb (.val (.int .i64 0) h10) call fun v_11 h12 =>
lt (blkK 0 k6) fun k13 =>
(loopN (L_clock_Clock_Due_1 P call fuel) fuel (upd (upd (upd (upd (upd (enterT [c_a0, l_a1]) 2 c_0) 4 v_2) 8 v_7) 9 v_9) 10 v_11) h12).bind (lpK k13)
theorem E_clock_Clock_Due (call : FuncId → List AVal → Heap → Res AVal) (fuel : Nat) (c_a0 l_a1 : AVal) (h : Heap) : bodyR Try.prog call fuel Try.f24 [c_a0, l_a1] h = S_clock_Clock_Due Try.prog call fuel c_a0 l_a1 h := by kernel_rfl
theorem R_clock_Clock_Due {X : XTab} (c_a0 l_a1 : AVal) {h : Heap} {Q : AVal → Heap → Prop} (hx : X F_clock_Clock_Due [c_a0, l_a1] = none) (q : Tells (fun m => S_clock_Clock_Due Try.prog (acallX Try.prog X m) m c_a0 l_a1 h) Q) :
    Tells (fun m => acallX Try.prog X m F_clock_Clock_Due [c_a0, l_a1] h) Q :=
  Tells.later (q.le fun m => (E_clock_Clock_Due (acallX Try.prog X m) m c_a0 l_a1 h) ▸ acallX_le Try.func24 hx m h)

/-! ### (precentor/clock.Clock).Take -/
def J_clock_Clock_Take_1 (P : Program) (call : FuncId → List AVal → Heap → Res AVal) (fuel : Nat) (k : Kn (AVal)) (t : T) (h : Heap) : Res (AVal) :=
arb (.of (ldn 1 h (t 5)) h) call fun v_16 h17 =>
arb (stR 1 h17 (t 4) v_16) call fun v_18 h19 =>
k .ret (upd t 40 v_16) h19

def J_clock_Clock_Take_4 (P : Program) (call : FuncId → List AVal → Heap → Res AVal) (fuel : Nat) (k : Kn (Ex × T)) (t : T) (h : Heap) : Res (Ex × T) :=
arb (.of (aBin P .add 3 (.tmp 20) (.const (.int .i64 1)) (t 20) (.int .i64 1)) h) call fun v_30 h31 =>
arb (.val v_30 h31) call fun v_32 h33 =>
k .normal (upd (upd t 39 v_30) 20 v_32) h33

def J_clock_Clock_Take_3 (P : Program) (call : FuncId → List AVal → Heap → Res AVal) (fuel : Nat) (k : Kn (Ex × T)) (t : T) (h : Heap) : Res (Ex × T) :=
lt (sqK (J_clock_Clock_Take_4 P call fuel k) k) fun k34 =>
lt (blkK 1 k34) fun k35 =>
arb (.of (ixsR 2 (t 18) (t 20)) h) call fun v_36 h37 =>
arb (.of (ldn 2 h37 v_36) h37) call fun v_38 h39 =>
arb (newR [(.int .i64 0), (.int .i64 0)] h39) call fun s_40 h41 =>
arb (stR 2 h41 s_40 v_38) call fun v_42 h43 =>
arb (.of (ldn 1 h43 (t 2)) h43) call fun v_44 h45 =>
arb (.of (fadR 0 s_40) h45) call fun v_46 h47 =>
arb (.of (ld1 h47 v_46) h47) call fun v_48 h49 =>
arb (.call F_clock_Clock_find [v_44, v_48] h49) call fun v_50 h51 =>
arb (.val v_50 h51) call fun k_52 h53 =>
arb (.val k_52 h53) call fun v_54 h55 =>
arb (.of (aBin P .geq 3 (.tmp 28) (.const (.int .i64 0)) v_54 (.int .i64 0)) h55) call fun v_56 h57 =>
cb v_56 (
arb (.of (fadR 0 (t 5)) h57) call fun v_58 h59 =>
arb (.of (ld1 h59 v_58) h59) call fun v_60 h61 =>
arb (.val k_52 h61) call fun v_62 h63 =>
arb (.of (ixsR 2 v_60 v_62) h63) call fun v_64 h65 =>
arb (.of (fadR 1 v_64) h65) call fun v_66 h67 =>
arb (.of (ld1 h67 v_66) h67) call fun v_68 h69 =>
arb (.of (aBin P .add 3 (.tmp 35) (.const (.int .i64 1)) v_68 (.int .i64 1)) h69) call fun v_70 h71 =>
arb (.of (ixsR 2 v_60 v_62) h71) call fun v_72 h73 =>
arb (.of (fadR 1 v_72) h73) call fun v_74 h75 =>
arb (stR 1 h75 v_74 v_70) call fun v_76 h77 =>
k35 .normal (upd (upd (upd (upd (upd (upd (upd (upd (upd (upd (upd (upd (upd (upd (upd (upd (upd (upd (upd t 22 v_36) 23 v_38) 7 s_40) 24 v_44) 25 v_46) 26 v_48) 27 v_50) 8 k_52) 28 v_54) 29 v_56) 30 v_58) 31 v_60) 32 v_62) 33 v_64) 34 v_66) 35 v_68) 36 v_70) 37 v_72) 38 v_74) h77) (
k35 .normal (upd (upd (upd (upd (upd (upd (upd (upd (upd (upd t 22 v_36) 23 v_38) 7 s_40) 24 v_44) 25 v_46) 26 v_48) 27 v_50) 8 k_52) 28 v_54) 29 v_56) h57)

def L_clock_Clock_Take_2 (P : Program) (call : FuncId → List AVal → Heap → Res AVal) (fuel : Nat) (t : T) (h : Heap) : Res (Ex × T) :=
lt okK fun k =>
arb (.of (aBin P .lss 3 (.tmp 20) (.tmp 19) (t 20) (t 19)) h) call fun v_28 h29 =>
lt (sqK (J_clock_Clock_Take_3 P call fuel k) k) fun k78 =>
cb v_28 (
k78 .normal (upd t 21 v_28) h29) (
k78 (.exit 0) (upd t 21 v_28) h29)

def J_clock_Clock_Take_0 (P : Program) (call : FuncId → List AVal → Heap → Res AVal) (fuel : Nat) (k : Kn (AVal)) (t : T) (h : Heap) : Res (AVal) :=
arb (.of (fadR 0 (t 2)) h) call fun v_4 h5 =>
arb (.of (ld1 h5 v_4) h5) call fun v_6 h7 =>
arb (appR 2 16 h7 .nils v_6) call fun v_8 h9 =>
arb (.of (bldR [.nils] [(0, 1, v_8)]) h9) call fun v_10 h11 =>
arb (newR [.nils] h11) call fun out_12 h13 =>
arb (stR 1 h13 out_12 v_10) call fun v_14 h15 =>
lt (sqK (J_clock_Clock_Take_1 P call fuel k) k) fun k20 =>
arb (.val (t 1) h15) call fun v_21 h22 =>
arb (.of (lenL v_21) h22) call fun v_23 h24 =>
arb (.val (.int .i64 0) h24) call fun v_25 h26 =>
lt (blkK 0 k20) fun k27 =>
(loopN (L_clock_Clock_Take_2 P call fuel) fuel (upd (upd (upd (upd (upd (upd (upd (upd t 14 v_4) 15 v_6) 16 v_8) 17 v_10) 5 out_12) 18 v_21) 19 v_23) 20 v_25) h26).bind (lpK k27)

theorem C_clock_Clock_Take_0 (h : Heap) (a : AVal) : aLoad Try.prog h 63 a = ldn 1 h a := by kernel_rfl
def S_clock_Clock_Take (P : Program) (call : FuncId → List AVal → Heap → Res AVal) (fuel : Nat) (c_a0 l_a1 : AVal) (h : Heap) : Res AVal :=
lt (retK P [.cell 4 63]) fun k =>
arb (boxR c_a0 h) call fun c_0 h1 =>
arb (newR [.nils] h1) call fun v_2 h3 =>
lt (sqK (J_clock_Clock_Take_0 P call fuel k) k) fun k79 =>
arb (.of (ldn 1 h3 c_0) h3) call fun v_80 h81 =>
arb (.val l_a1 h81) call fun v_82 h83 =>
arb (.call F_clock_Clock_Due [v_80, v_82] h83) call fun v_84 h85 =>
arb (.of (aUn P .not v_84) h85) call fun v_86 h87 =>
cb v_86 (
arb (.of (ldn 1 h87 c_0) h87) call fun v_88 h89 =>
arb (stR 1 h89 v_2 v_88) call fun v_90 h91 =>
k79 .ret (upd (upd (upd (upd (upd (upd (upd (enterT [c_a0, l_a1]) 2 c_0) 4 v_2) 9 v_80) 10 v_82) 11 v_84) 12 v_86) 13 v_88) h91) (
k79 .normal (upd (upd (upd (upd (upd (upd (enterT [c_a0, l_a1]) 2 c_0) 4 v_2) 9 v_80) 10 v_82) 11 v_84) 12 v_86) h87)
theorem E_clock_Clock_Take (call : FuncId → List AVal → Heap → Res AVal) (fuel : Nat) (c_a0 l_a1 : AVal) (h : Heap) : bodyR Try.prog call fuel Try.f25 [c_a0, l_a1] h = S_clock_Clock_Take Try.prog call fuel c_a0 l_a1 h := by kernel_rfl
theorem R_clock_Clock_Take {X : XTab} (c_a0 l_a1 : AVal) {h : Heap} {Q : AVal → Heap → Prop} (hx : X F_clock_Clock_Take [c_a0, l_a1] = none) (q : Tells (fun m => S_clock_Clock_Take Try.prog (acallX Try.prog X m) m c_a0 l_a1 h) Q) :
    Tells (fun m => acallX Try.prog X m F_clock_Clock_Take [c_a0, l_a1] h) Q :=
  Tells.later (q.le fun m => (E_clock_Clock_Take (acallX Try.prog X m) m c_a0 l_a1 h) ▸ acallX_le Try.func25 hx m h)

/-! ### (precentor/clock.Clock).Own -/
def J_clock_Clock_Own_0 (P : Program) (call : FuncId → List AVal → Heap → Res AVal) (fuel : Nat) (k : Kn (AVal)) (t : T) (h : Heap) : Res (AVal) :=
arb (.val (t 3) h) call fun v_6 h7 =>
arb (.val v_6 h7) call fun v_8 h9 =>
k .ret (upd (upd t 19 v_6) 2 v_8) h9

def J_clock_Clock_Own_3 (P : Program) (call : FuncId → List AVal → Heap → Res AVal) (fuel : Nat) (k : Kn (Ex × T)) (t : T) (h : Heap) : Res (Ex × T) :=
arb (.of (aBin P .add 3 (.tmp 9) (.const (.int .i64 1)) (t 9) (.int .i64 1)) h) call fun v_22 h23 =>
arb (.val v_22 h23) call fun v_24 h25 =>
k .normal (upd (upd t 18 v_22) 9 v_24) h25

def J_clock_Clock_Own_2 (P : Program) (call : FuncId → List AVal → Heap → Res AVal) (fuel : Nat) (k : Kn (Ex × T)) (t : T) (h : Heap) : Res (Ex × T) :=
lt (sqK (J_clock_Clock_Own_3 P call fuel k) k) fun k26 =>
lt (blkK 1 k26) fun k27 =>
arb (.of (ixsR 2 (t 7) (t 9)) h) call fun v_28 h29 =>
arb (.of (ldn 2 h29 v_28) h29) call fun v_30 h31 =>
arb (newR [(.int .i64 0), (.int .i64 0)] h31) call fun s_32 h33 =>
arb (stR 2 h33 s_32 v_30) call fun v_34 h35 =>
arb (.val (t 3) h35) call fun v_36 h37 =>
arb (.of (fadR 0 s_32) h37) call fun v_38 h39 =>
arb (.of (ld1 h39 v_38) h39) call fun v_40 h41 =>
arb (bslR 1 [(.int .i64 0)] 1 h41 [(0, 1, v_40)]) call fun v_42 h43 =>
arb (appR 1 8 h43 v_36 v_42) call fun v_44 h45 =>
arb (.val v_44 h45) call fun out_46 h47 =>
k27 .normal (upd (upd (upd (upd (upd (upd (upd (upd (upd t 11 v_28) 12 v_30) 5 s_32) 13 v_36) 14 v_38) 15 v_40) 16 v_42) 17 v_44) 3 out_46) h47

def L_clock_Clock_Own_1 (P : Program) (call : FuncId → List AVal → Heap → Res AVal) (fuel : Nat) (t : T) (h : Heap) : Res (Ex × T) :=
lt okK fun k =>
arb (.of (aBin P .lss 3 (.tmp 9) (.tmp 8) (t 9) (t 8)) h) call fun v_20 h21 =>
lt (sqK (J_clock_Clock_Own_2 P call fuel k) k) fun k48 =>
cb v_20 (
k48 .normal (upd t 10 v_20) h21) (
k48 (.exit 0) (upd t 10 v_20) h21)

def S_clock_Clock_Own (P : Program) (call : FuncId → List AVal → Heap → Res AVal) (fuel : Nat) (c_a0 : AVal) (h : Heap) : Res AVal :=
lt (retK P [.tmp 2]) fun k =>
arb (boxR c_a0 h) call fun c_0 h1 =>
arb (.val .nils h1) call fun v_2 h3 =>
arb (.val .nils h3) call fun out_4 h5 =>
lt (sqK (J_clock_Clock_Own_0 P call fuel k) k) fun k10 =>
arb (.of (fadR 0 c_0) h5) call fun v_11 h12 =>
arb (.of (ld1 h12 v_11) h12) call fun v_13 h14 =>
arb (.of (lenL v_13) h14) call fun v_15 h16 =>
arb (.val (.int .i64 0) h16) call fun v_17 h18 =>
lt (blkK 0 k10) fun k19 =>
(loopN (L_clock_Clock_Own_1 P call fuel) fuel (upd (upd (upd (upd (upd (upd (upd (enterT [c_a0]) 1 c_0) 2 v_2) 3 out_4) 6 v_11) 7 v_13) 8 v_15) 9 v_17) h18).bind (lpK k19)
theorem E_clock_Clock_Own (call : FuncId → List AVal → Heap → Res AVal) (fuel : Nat) (c_a0 : AVal) (h : Heap) : bodyR Try.prog call fuel Try.f32 [c_a0] h = S_clock_Clock_Own Try.prog call fuel c_a0 h := by kernel_rfl
theorem R_clock_Clock_Own {X : XTab} (c_a0 : AVal) {h : Heap} {Q : AVal → Heap → Prop} (hx : X F_clock_Clock_Own [c_a0] = none) (q : Tells (fun m => S_clock_Clock_Own Try.prog (acallX Try.prog X m) m c_a0 h) Q) :
    Tells (fun m => acallX Try.prog X m F_clock_Clock_Own [c_a0] h) Q :=
  Tells.later (q.le fun m => (E_clock_Clock_Own (acallX Try.prog X m) m c_a0 h) ▸ acallX_le Try.func32 hx m h)

/-! ### (precentor/clock.Clock).Next -/
def J_clock_Clock_Next_0 (P : Program) (call : FuncId → List AVal → Heap → Res AVal) (fuel : Nat) (k : Kn (AVal)) (t : T) (h : Heap) : Res (AVal) :=
arb (.val (.int .i64 0) h) call fun v_4 h5 =>
k .ret (upd t 4 v_4) h5

def S_clock_Clock_Next (P : Program) (call : FuncId → List AVal → Heap → Res AVal) (fuel : Nat) (c_a0 place_a1 : AVal) (h : Heap) : Res AVal :=
lt (retK P [.tmp 4]) fun k =>
arb (boxR c_a0 h) call fun c_0 h1 =>
arb (.val (.int .i64 0) h1) call fun v_2 h3 =>
lt (sqK (J_clock_Clock_Next_0 P call fuel k) k) fun k6 =>
arb (.of (ldn 1 h3 c_0) h3) call fun v_7 h8 =>
arb (.val place_a1 h8) call fun v_9 h10 =>
arb (.call F_clock_Clock_find [v_7, v_9] h10) call fun v_11 h12 =>
arb (.val v_11 h12) call fun k_13 h14 =>
arb (.val k_13 h14) call fun v_15 h16 =>
arb (.of (aBin P .geq 3 (.tmp 9) (.const (.int .i64 0)) v_15 (.int .i64 0)) h16) call fun v_17 h18 =>
cb v_17 (
arb (.of (fadR 0 c_0) h18) call fun v_19 h20 =>
arb (.of (ld1 h20 v_19) h20) call fun v_21 h22 =>
arb (.val k_13 h22) call fun v_23 h24 =>
arb (.of (ixsR 2 v_21 v_23) h24) call fun v_25 h26 =>
arb (.of (fadR 1 v_25) h26) call fun v_27 h28 =>
arb (.of (ld1 h28 v_27) h28) call fun v_29 h30 =>
arb (.val v_29 h30) call fun v_31 h32 =>
k6 .ret (upd (upd (upd (upd (upd (upd (upd (upd (upd (upd (upd (upd (upd (upd (upd (enterT [c_a0, place_a1]) 2 c_0) 4 v_2) 6 v_7) 7 v_9) 8 v_11) 5 k_13) 9 v_15) 10 v_17) 11 v_19) 12 v_21) 13 v_23) 14 v_25) 15 v_27) 16 v_29) 4 v_31) h32) (
k6 .normal (upd (upd (upd (upd (upd (upd (upd (upd (enterT [c_a0, place_a1]) 2 c_0) 4 v_2) 6 v_7) 7 v_9) 8 v_11) 5 k_13) 9 v_15) 10 v_17) h18)
theorem E_clock_Clock_Next (call : FuncId → List AVal → Heap → Res AVal) (fuel : Nat) (c_a0 place_a1 : AVal) (h : Heap) : bodyR Try.prog call fuel Try.f33 [c_a0, place_a1] h = S_clock_Clock_Next Try.prog call fuel c_a0 place_a1 h := by kernel_rfl
theorem R_clock_Clock_Next {X : XTab} (c_a0 place_a1 : AVal) {h : Heap} {Q : AVal → Heap → Prop} (hx : X F_clock_Clock_Next [c_a0, place_a1] = none) (q : Tells (fun m => S_clock_Clock_Next Try.prog (acallX Try.prog X m) m c_a0 place_a1 h) Q) :
    Tells (fun m => acallX Try.prog X m F_clock_Clock_Next [c_a0, place_a1] h) Q :=
  Tells.later (q.le fun m => (E_clock_Clock_Next (acallX Try.prog X m) m c_a0 place_a1 h) ▸ acallX_le Try.func33 hx m h)

/-! ### (precentor/clock.Clock).find -/
def J_clock_Clock_find_0 (P : Program) (call : FuncId → List AVal → Heap → Res AVal) (fuel : Nat) (k : Kn (AVal)) (t : T) (h : Heap) : Res (AVal) :=
arb (.val (.int .i64 (-1)) h) call fun v_4 h5 =>
k .ret (upd t 4 v_4) h5

def J_clock_Clock_find_3 (P : Program) (call : FuncId → List AVal → Heap → Res AVal) (fuel : Nat) (k : Kn (Ex × T)) (t : T) (h : Heap) : Res (Ex × T) :=
arb (.of (aBin P .add 3 (.tmp 10) (.const (.int .i64 1)) (t 10) (.int .i64 1)) h) call fun v_18 h19 =>
arb (.val v_18 h19) call fun v_20 h21 =>
k .normal (upd (upd t 20 v_18) 10 v_20) h21

def J_clock_Clock_find_2 (P : Program) (call : FuncId → List AVal → Heap → Res AVal) (fuel : Nat) (k : Kn (Ex × T)) (t : T) (h : Heap) : Res (Ex × T) :=
lt (sqK (J_clock_Clock_find_3 P call fuel k) k) fun k22 =>
lt (blkK 1 k22) fun k23 =>
arb (.val (t 10) h) call fun v_24 h25 =>
arb (.of (ixsR 2 (t 8) (t 10)) h25) call fun v_26 h27 =>
arb (.of (ldn 2 h27 v_26) h27) call fun v_28 h29 =>
arb (newR [(.int .i64 0), (.int .i64 0)] h29) call fun s_30 h31 =>
arb (.val v_24 h31) call fun i_32 h33 =>
arb (stR 2 h33 s_30 v_28) call fun v_34 h35 =>
arb (.of (fadR 0 s_30) h35) call fun v_36 h37 =>
arb (.of (ld1 h37 v_36) h37) call fun v_38 h39 =>
arb (.val (t 1) h39) call fun v_40 h41 =>
arb (.of (aBin P .eql 3 (.tmp 16) (.tmp 17) v_38 v_40) h41) call fun v_42 h43 =>
cb v_42 (
arb (.val i_32 h43) call fun v_44 h45 =>
arb (.val v_44 h45) call fun v_46 h47 =>
k23 .ret (upd (upd (upd (upd (upd (upd (upd (upd (upd (upd (upd t 12 v_24) 13 v_26) 14 v_28) 6 s_30) 5 i_32) 15 v_36) 16 v_38) 17 v_40) 18 v_42) 19 v_44) 4 v_46) h47) (
k23 .normal (upd (upd (upd (upd (upd (upd (upd (upd (upd t 12 v_24) 13 v_26) 14 v_28) 6 s_30) 5 i_32) 15 v_36) 16 v_38) 17 v_40) 18 v_42) h43)

def L_clock_Clock_find_1 (P : Program) (call : FuncId → List AVal → Heap → Res AVal) (fuel : Nat) (t : T) (h : Heap) : Res (Ex × T) :=
lt okK fun k =>
arb (.of (aBin P .lss 3 (.tmp 10) (.tmp 9) (t 10) (t 9)) h) call fun v_16 h17 =>
lt (sqK (J_clock_Clock_find_2 P call fuel k) k) fun k48 =>
cb v_16 (
k48 .normal (upd t 11 v_16) h17) (
k48 (.exit 0) (upd t 11 v_16) h17)

def S_clock_Clock_find (P : Program) (call : FuncId → List AVal → Heap → Res AVal) (fuel : Nat) (c_a0 place_a1 : AVal) (h : Heap) : Res AVal :=
lt (retK P [.tmp 4]) fun k =>
arb (boxR c_a0 h) call fun c_0 h1 =>
arb (.val (.int .i64 0) h1) call fun v_2 h3 =>
lt (sqK (J_clock_Clock_find_0 P call fuel k) k) fun k6 =>
arb (.of (fadR 0 c_0) h3) call fun v_7 h8 =>
arb (.of (ld1 h8 v_7) h8) call fun v_9 h10 =>
arb (.of (lenL v_9) h10) call fun v_11 h12 =>
arb (.val (.int .i64 0) h12) call fun v_13 h14 =>
lt (blkK 0 k6) fun k15 =>
(loopN (L_clock_Clock_find_1 P call fuel) fuel (upd (upd (upd (upd (upd (upd (enterT [c_a0, place_a1]) 2 c_0) 4 v_2) 7 v_7) 8 v_9) 9 v_11) 10 v_13) h14).bind (lpK k15)
theorem E_clock_Clock_find (call : FuncId → List AVal → Heap → Res AVal) (fuel : Nat) (c_a0 place_a1 : AVal) (h : Heap) : bodyR Try.prog call fuel Try.f35 [c_a0, place_a1] h = S_clock_Clock_find Try.prog call fuel c_a0 place_a1 h := by kernel_rfl
theorem R_clock_Clock_find {X : XTab} (c_a0 place_a1 : AVal) {h : Heap} {Q : AVal → Heap → Prop} (hx : X F_clock_Clock_find [c_a0, place_a1] = none) (q : Tells (fun m => S_clock_Clock_find Try.prog (acallX Try.prog X m) m c_a0 place_a1 h) Q) :
    Tells (fun m => acallX Try.prog X m F_clock_Clock_find [c_a0, place_a1] h) Q :=
  Tells.later (q.le fun m => (E_clock_Clock_find (acallX Try.prog X m) m c_a0 place_a1 h) ▸ acallX_le Try.func35 hx m h)


end Go.Proofs.Ytbpbdigehfkjjaa
