/-
  Functions of precentorref1 in the form of YtbpbdigehfkjjaaABS (printed by a program of ours, gen.lean).
-/
import Derived.Test.YtbpbdigehfkjjaaSIds
set_option linter.unusedVariables false
namespace Go.Proofs.Ytbpbdigehfkjjaa
open Go.Ab
/-! ### precentor/precentorref1.SameEvent -/
def J_precentorref1_SameEvent_1 (P : Program) (call : FuncId → List AVal → Heap → Res AVal) (fuel : Nat) (k : Kn (AVal)) (t : T) (h : Heap) : Res (AVal) :=
arb (.of (fadR 5 (t 2)) h) call fun v_6 h7 =>
arb (.of (ld1 h7 v_6) h7) call fun v_8 h9 =>
arb (.of (fadR 5 (t 3)) h9) call fun v_10 h11 =>
arb (.of (ld1 h11 v_10) h11) call fun v_12 h13 =>
arb (.call F_precentorref1_SameAttrs [v_8, v_12] h13) call fun v_14 h15 =>
arb (.val v_14 h15) call fun v_16 h17 =>
k .ret (upd (upd (upd (upd (upd (upd t 66 v_6) 67 v_8) 68 v_10) 69 v_12) 70 v_14) 4 v_16) h17

def J_precentorref1_SameEvent_4 (P : Program) (call : FuncId → List AVal → Heap → Res AVal) (fuel : Nat) (k : Kn (Ex × T)) (t : T) (h : Heap) : Res (Ex × T) :=
arb (.val (t 5) h) call fun v_22 h23 =>
arb (.of (aBin P .add 3 (.tmp 53) (.const (.int .i64 1)) v_22 (.int .i64 1)) h23) call fun v_24 h25 =>
arb (.val v_24 h25) call fun i_26 h27 =>
k .normal (upd (upd (upd t 53 v_22) 54 v_24) 5 i_26) h27

def J_precentorref1_SameEvent_3 (P : Program) (call : FuncId → List AVal → Heap → Res AVal) (fuel : Nat) (k : Kn (Ex × T)) (t : T) (h : Heap) : Res (Ex × T) :=
lt (sqK (J_precentorref1_SameEvent_4 P call fuel k) k) fun k28 =>
lt (blkK 1 k28) fun k29 =>
obv (.of (fadR 6 (t 2)) h) fun v_30 =>
obv (.of (ld1 h v_30) h) fun v_31 =>
obv (.val (t 5) h) fun v_32 =>
obv (.of (ixsR 2 v_31 v_32) h) fun v_33 =>
obv (.of (ldn 2 h v_33) h) fun v_34 =>
obv (.of (fadR 6 (t 3)) h) fun v_35 =>
obv (.of (ld1 h v_35) h) fun v_36 =>
obv (.val (t 5) h) fun v_37 =>
obv (.of (ixsR 2 v_36 v_37) h) fun v_38 =>
obv (.of (ldn 2 h v_38) h) fun v_39 =>
obv (.of (aBin P .neq 34 (.tmp 59) (.tmp 64) v_34 v_39) h) fun v_40 =>
cb v_40 (
arb (.val (.bool false) h) call fun v_41 h42 =>
k29 .ret (upd (upd (upd (upd (upd (upd (upd (upd (upd (upd (upd (upd t 55 v_30) 56 v_31) 57 v_32) 58 v_33) 59 v_34) 60 v_35) 61 v_36) 62 v_37) 63 v_38) 64 v_39) 65 v_40) 4 v_41) h42) (
k29 .normal (upd (upd (upd (upd (upd (upd (upd (upd (upd (upd (upd t 55 v_30) 56 v_31) 57 v_32) 58 v_33) 59 v_34) 60 v_35) 61 v_36) 62 v_37) 63 v_38) 64 v_39) 65 v_40) h)

def L_precentorref1_SameEvent_2 (P : Program) (call : FuncId → List AVal → Heap → Res AVal) (fuel : Nat) (t : T) (h : Heap) : Res (Ex × T) :=
lt okK fun k =>
lt (sqK (J_precentorref1_SameEvent_3 P call fuel k) k) fun k43 =>
arb (.val (t 5) h) call fun v_44 h45 =>
arb (.of (fadR 6 (t 2)) h45) call fun v_46 h47 =>
arb (.of (ld1 h47 v_46) h47) call fun v_48 h49 =>
arb (.of (lenL v_48) h49) call fun v_50 h51 =>
arb (.of (aBin P .lss 3 (.tmp 48) (.tmp 51) v_44 v_50) h51) call fun v_52 h53 =>
cb v_52 (
k43 .normal (upd (upd (upd (upd (upd t 48 v_44) 49 v_46) 50 v_48) 51 v_50) 52 v_52) h53) (
k43 (.exit 0) (upd (upd (upd (upd (upd t 48 v_44) 49 v_46) 50 v_48) 51 v_50) 52 v_52) h53)

def J_precentorref1_SameEvent_0 (P : Program) (call : FuncId → List AVal → Heap → Res AVal) (fuel : Nat) (k : Kn (AVal)) (t : T) (h : Heap) : Res (AVal) :=
lt (sqK (J_precentorref1_SameEvent_1 P call fuel k) k) fun k18 =>
arb (.val (.int .i64 0) h) call fun i_19 h20 =>
lt (blkK 0 k18) fun k21 =>
(loopN (L_precentorref1_SameEvent_2 P call fuel) fuel (upd t 5 i_19) h20).bind (lpK k21)

def S_precentorref1_SameEvent (P : Program) (call : FuncId → List AVal → Heap → Res AVal) (fuel : Nat) (a_a0 b_a1 : AVal) (h : Heap) : Res AVal :=
lt (retK P [.tmp 4]) fun k =>
arb (boxR a_a0 h) call fun a_0 h1 =>
arb (boxR b_a1 h1) call fun b_2 h3 =>
arb (.val (.bool false) h3) call fun v_4 h5 =>
lt (sqK (J_precentorref1_SameEvent_0 P call fuel k) k) fun k54 =>
arb (.of (fadR 0 a_0) h5) call fun v_55 h56 =>
arb (.of (ld1 h56 v_55) h56) call fun v_57 h58 =>
arb (.of (fadR 0 b_2) h58) call fun v_59 h60 =>
arb (.of (ld1 h60 v_59) h60) call fun v_61 h62 =>
arb (.of (aBin P .neq 3 (.tmp 7) (.tmp 9) v_57 v_61) h62) call fun v_63 h64 =>
arb (.val v_63 h64) call fun v_65 h66 =>
gd (wantB v_65 false) (fun c => arb (.of (fadR 1 a_0) h66) call c) h66 fun v_67 h68 =>
gd (wantB v_65 false) (fun c => arb (.of (ld1 h68 v_67) h68) call c) h68 fun v_69 h70 =>
gd (wantB v_65 false) (fun c => arb (.of (fadR 1 b_2) h70) call c) h70 fun v_71 h72 =>
gd (wantB v_65 false) (fun c => arb (.of (ld1 h72 v_71) h72) call c) h72 fun v_73 h74 =>
gd (wantB v_65 false) (fun c => arb (.of (aBin P .neq 3 (.tmp 13) (.tmp 15) v_69 v_73) h74) call c) h74 fun v_75 h76 =>
arb (pkR v_65 (.bool true) v_75 h76) call fun v_77 h78 =>
arb (.val v_77 h78) call fun v_79 h80 =>
gd (wantB v_79 false) (fun c => arb (.of (fadR 2 a_0) h80) call c) h80 fun v_81 h82 =>
gd (wantB v_79 false) (fun c => arb (.of (ld1 h82 v_81) h82) call c) h82 fun v_83 h84 =>
gd (wantB v_79 false) (fun c => arb (.of (fadR 2 b_2) h84) call c) h84 fun v_85 h86 =>
gd (wantB v_79 false) (fun c => arb (.of (ld1 h86 v_85) h86) call c) h86 fun v_87 h88 =>
gd (wantB v_79 false) (fun c => arb (.of (aBin P .neq 3 (.tmp 20) (.tmp 22) v_83 v_87) h88) call c) h88 fun v_89 h90 =>
arb (pkR v_79 (.bool true) v_89 h90) call fun v_91 h92 =>
arb (.val v_91 h92) call fun v_93 h94 =>
gd (wantB v_93 false) (fun c => arb (.of (fadR 3 a_0) h94) call c) h94 fun v_95 h96 =>
gd (wantB v_93 false) (fun c => arb (.of (ld1 h96 v_95) h96) call c) h96 fun v_97 h98 =>
gd (wantB v_93 false) (fun c => arb (.of (fadR 3 b_2) h98) call c) h98 fun v_99 h100 =>
gd (wantB v_93 false) (fun c => arb (.of (ld1 h100 v_99) h100) call c) h100 fun v_101 h102 =>
gd (wantB v_93 false) (fun c => arb (.of (aBin P .neq 3 (.tmp 27) (.tmp 29) v_97 v_101) h102) call c) h102 fun v_103 h104 =>
arb (pkR v_93 (.bool true) v_103 h104) call fun v_105 h106 =>
arb (.val v_105 h106) call fun v_107 h108 =>
gd (wantB v_107 false) (fun c => arb (.of (fadR 4 a_0) h108) call c) h108 fun v_109 h110 =>
gd (wantB v_107 false) (fun c => arb (.of (ld1 h110 v_109) h110) call c) h110 fun v_111 h112 =>
gd (wantB v_107 false) (fun c => arb (.of (fadR 4 b_2) h112) call c) h112 fun v_113 h114 =>
gd (wantB v_107 false) (fun c => arb (.of (ld1 h114 v_113) h114) call c) h114 fun v_115 h116 =>
gd (wantB v_107 false) (fun c => arb (.of (aBin P .neq 3 (.tmp 34) (.tmp 36) v_111 v_115) h116) call c) h116 fun v_117 h118 =>
arb (pkR v_107 (.bool true) v_117 h118) call fun v_119 h120 =>
arb (.val v_119 h120) call fun v_121 h122 =>
gd (wantB v_121 false) (fun c => arb (.of (fadR 6 a_0) h122) call c) h122 fun v_123 h124 =>
gd (wantB v_121 false) (fun c => arb (.of (ld1 h124 v_123) h124) call c) h124 fun v_125 h126 =>
gd (wantB v_121 false) (fun c => arb (.of (lenL v_125) h126) call c) h126 fun v_127 h128 =>
gd (wantB v_121 false) (fun c => arb (.of (fadR 6 b_2) h128) call c) h128 fun v_129 h130 =>
gd (wantB v_121 false) (fun c => arb (.of (ld1 h130 v_129) h130) call c) h130 fun v_131 h132 =>
gd (wantB v_121 false) (fun c => arb (.of (lenL v_131) h132) call c) h132 fun v_133 h134 =>
gd (wantB v_121 false) (fun c => arb (.of (aBin P .neq 3 (.tmp 42) (.tmp 45) v_127 v_133) h134) call c) h134 fun v_135 h136 =>
arb (pkR v_121 (.bool true) v_135 h136) call fun v_137 h138 =>
cb v_137 (
arb (.val (.bool false) h138) call fun v_139 h140 =>
k54 .ret (upd (upd (upd (upd (upd (upd (upd (upd (upd (upd (upd (upd (upd (upd (upd (upd (upd (upd (upd (upd (upd (upd (upd (upd (upd (upd (upd (upd (upd (upd (upd (upd (upd (upd (upd (upd (upd (upd (upd (upd (upd (upd (upd (upd (upd (upd (enterT [a_a0, b_a1]) 2 a_0) 3 b_2) 4 v_4) 6 v_55) 7 v_57) 8 v_59) 9 v_61) 10 v_63) 11 v_65) 12 v_67) 13 v_69) 14 v_71) 15 v_73) 16 v_75) 17 v_77) 18 v_79) 19 v_81) 20 v_83) 21 v_85) 22 v_87) 23 v_89) 24 v_91) 25 v_93) 26 v_95) 27 v_97) 28 v_99) 29 v_101) 30 v_103) 31 v_105) 32 v_107) 33 v_109) 34 v_111) 35 v_113) 36 v_115) 37 v_117) 38 v_119) 39 v_121) 40 v_123) 41 v_125) 42 v_127) 43 v_129) 44 v_131) 45 v_133) 46 v_135) 47 v_137) 4 v_139) h140) (
k54 .normal (upd (upd (upd (upd (upd (upd (upd (upd (upd (upd (upd (upd (upd (upd (upd (upd (upd (upd (upd (upd (upd (upd (upd (upd (upd (upd (upd (upd (upd (upd (upd (upd (upd (upd (upd (upd (upd (upd (upd (upd (upd (upd (upd (upd (upd (enterT [a_a0, b_a1]) 2 a_0) 3 b_2) 4 v_4) 6 v_55) 7 v_57) 8 v_59) 9 v_61) 10 v_63) 11 v_65) 12 v_67) 13 v_69) 14 v_71) 15 v_73) 16 v_75) 17 v_77) 18 v_79) 19 v_81) 20 v_83) 21 v_85) 22 v_87) 23 v_89) 24 v_91) 25 v_93) 26 v_95) 27 v_97) 28 v_99) 29 v_101) 30 v_103) 31 v_105) 32 v_107) 33 v_109) 34 v_111) 35 v_113) 36 v_115) 37 v_117) 38 v_119) 39 v_121) 40 v_123) 41 v_125) 42 v_127) 43 v_129) 44 v_131) 45 v_133) 46 v_135) 47 v_137) h138)
theorem E_precentorref1_SameEvent (call : FuncId → List AVal → Heap → Res AVal) (fuel : Nat) (a_a0 b_a1 : AVal) (h : Heap) : bodyR Try.prog call fuel Try.f14 [a_a0, b_a1] h = S_precentorref1_SameEvent Try.prog call fuel a_a0 b_a1 h := by kernel_rfl
theorem R_precentorref1_SameEvent {X : XTab} (a_a0 b_a1 : AVal) {h : Heap} {Q : AVal → Heap → Prop} (hx : X F_precentorref1_SameEvent [a_a0, b_a1] = none) (q : Tells (fun m => S_precentorref1_SameEvent Try.prog (acallX Try.prog X m) m a_a0 b_a1 h) Q) :
    Tells (fun m => acallX Try.prog X m F_precentorref1_SameEvent [a_a0, b_a1] h) Q :=
  Tells.later (q.le fun m => (E_precentorref1_SameEvent (acallX Try.prog X m) m a_a0 b_a1 h) ▸ acallX_le Try.func14 hx m h)

/-! ### precentor/precentorref1.SameAttrs -/
def J_precentorref1_SameAttrs_1 (P : Program) (call : FuncId → List AVal → Heap → Res AVal) (fuel : Nat) (k : Kn (AVal)) (t : T) (h : Heap) : Res (AVal) :=
arb (.val (.bool true) h) call fun v_2 h3 =>
k .ret (upd t 4 v_2) h3

def J_precentorref1_SameAttrs_4 (P : Program) (call : FuncId → List AVal → Heap → Res AVal) (fuel : Nat) (k : Kn (Ex × T)) (t : T) (h : Heap) : Res (Ex × T) :=
arb (.val (t 5) h) call fun v_8 h9 =>
arb (.of (aBin P .add 3 (.tmp 15) (.const (.int .i64 1)) v_8 (.int .i64 1)) h9) call fun v_10 h11 =>
arb (.val v_10 h11) call fun i_12 h13 =>
k .normal (upd (upd (upd t 15 v_8) 16 v_10) 5 i_12) h13

def J_precentorref1_SameAttrs_3 (P : Program) (call : FuncId → List AVal → Heap → Res AVal) (fuel : Nat) (k : Kn (Ex × T)) (t : T) (h : Heap) : Res (Ex × T) :=
lt (sqK (J_precentorref1_SameAttrs_4 P call fuel k) k) fun k14 =>
lt (blkK 1 k14) fun k15 =>
obv (.val (t 0) h) fun v_16 =>
obv (.val (t 5) h) fun v_18 =>
obv (.of (ixsR 6 v_16 v_18) h) fun v_20 =>
obv (.of (fadR 0 v_20) h) fun v_22 =>
obv (.of (ld1 h v_22) h) fun v_24 => ifb true <|
obv (.val (t 1) h) fun v_26 =>
obv (.val (t 5) h) fun v_28 =>
obv (.of (ixsR 6 v_26 v_28) h) fun v_30 =>
obv (.of (fadR 0 v_30) h) fun v_32 =>
obv (.of (ld1 h v_32) h) fun v_34 => ifb true <|
obv (.of (aBin P .neq 9 (.tmp 21) (.tmp 26) v_24 v_34) h) fun v_36 =>
obv (.val v_36 h) fun v_38 =>
gdr (wantB v_38 false) (fun c => obv (.val (t 0) h) fun v_40 =>
c true v_40 h) h fun w42 v_40 h42 =>
gdr (wantB v_38 false) (fun c => obv (.val (t 5) h42) fun v_43 =>
c true v_43 h42) h42 fun w45 v_43 h45 =>
gdr (wantB v_38 false) (fun c => obv (.of (ixsR 6 v_40 v_43) h45) fun v_46 =>
c true v_46 h45) h45 fun w48 v_46 h48 =>
gdr (wantB v_38 false) (fun c => obv (.of (fadR 1 v_46) h48) fun v_49 =>
c true v_49 h48) h48 fun w51 v_49 h51 =>
gdr (wantB v_38 false) (fun c => obv (.of (ldn 5 h51 v_49) h51) fun v_52 => ifb true <|
c true v_52 h51) h51 fun w54 v_52 h54 =>
gdr (wantB v_38 false) (fun c => obv (.val (t 1) h54) fun v_55 =>
c true v_55 h54) h54 fun w57 v_55 h57 =>
gdr (wantB v_38 false) (fun c => obv (.val (t 5) h57) fun v_58 =>
c true v_58 h57) h57 fun w60 v_58 h60 =>
gdr (wantB v_38 false) (fun c => obv (.of (ixsR 6 v_55 v_58) h60) fun v_61 =>
c true v_61 h60) h60 fun w63 v_61 h63 =>
gdr (wantB v_38 false) (fun c => obv (.of (fadR 1 v_61) h63) fun v_64 =>
c true v_64 h63) h63 fun w66 v_64 h66 =>
gdr (wantB v_38 false) (fun c => obv (.of (ldn 5 h66 v_64) h66) fun v_67 => ifb true <|
c true v_67 h66) h66 fun w69 v_67 h69 =>
gdr (wantB v_38 false) (fun c => arbE (.call F_precentorref1_SameValue [v_52, v_67] h69) call fun v_70 h71 => lt h71 fun g71 => ifb (true && true) <|
c true v_70 g71) h69 fun w72 v_70 h72 =>
gdr (wantB v_38 false) (fun c => obv (.of (aUn P .not v_70) h72) fun v_73 =>
c true v_73 h72) h72 fun w75 v_73 h75 =>
obv (pkR v_38 (.bool true) v_73 h75) fun v_76 =>
cb v_76 (
arb (.val (.bool false) h75) call fun v_78 h79 =>
k15 .ret (upd (upd (upd (upd (upd (upd (upd (upd (upd (upd (upd (upd (upd (upd (upd (upd (upd (upd (upd (upd (upd (upd (upd (upd (upd (upd t 17 v_16) 18 v_18) 19 v_20) 20 v_22) 21 v_24) 22 v_26) 23 v_28) 24 v_30) 25 v_32) 26 v_34) 27 v_36) 28 v_38) 29 v_40) 30 v_43) 31 v_46) 32 v_49) 33 v_52) 34 v_55) 35 v_58) 36 v_61) 37 v_64) 38 v_67) 39 v_70) 40 v_73) 41 v_76) 4 v_78) h79) (
k15 .normal (upd (upd (upd (upd (upd (upd (upd (upd (upd (upd (upd (upd (upd (upd (upd (upd (upd (upd (upd (upd (upd (upd (upd (upd (upd t 17 v_16) 18 v_18) 19 v_20) 20 v_22) 21 v_24) 22 v_26) 23 v_28) 24 v_30) 25 v_32) 26 v_34) 27 v_36) 28 v_38) 29 v_40) 30 v_43) 31 v_46) 32 v_49) 33 v_52) 34 v_55) 35 v_58) 36 v_61) 37 v_64) 38 v_67) 39 v_70) 40 v_73) 41 v_76) h75)

def L_precentorref1_SameAttrs_2 (P : Program) (call : FuncId → List AVal → Heap → Res AVal) (fuel : Nat) (t : T) (h : Heap) : Res (Ex × T) :=
lt okK fun k =>
lt (sqK (J_precentorref1_SameAttrs_3 P call fuel k) k) fun k80 =>
arb (.val (t 5) h) call fun v_81 h82 =>
arb (.val (t 0) h82) call fun v_83 h84 =>
arb (.of (lenL v_83) h84) call fun v_85 h86 =>
arb (.of (aBin P .lss 3 (.tmp 11) (.tmp 13) v_81 v_85) h86) call fun v_87 h88 =>
cb v_87 (
k80 .normal (upd (upd (upd (upd t 11 v_81) 12 v_83) 13 v_85) 14 v_87) h88) (
k80 (.exit 0) (upd (upd (upd (upd t 11 v_81) 12 v_83) 13 v_85) 14 v_87) h88)

def J_precentorref1_SameAttrs_0 (P : Program) (call : FuncId → List AVal → Heap → Res AVal) (fuel : Nat) (k : Kn (AVal)) (t : T) (h : Heap) : Res (AVal) :=
lt (sqK (J_precentorref1_SameAttrs_1 P call fuel k) k) fun k4 =>
arb (.val (.int .i64 0) h) call fun i_5 h6 =>
lt (blkK 0 k4) fun k7 =>
(loopN (L_precentorref1_SameAttrs_2 P call fuel) fuel (upd t 5 i_5) h6).bind (lpK k7)

def S_precentorref1_SameAttrs (P : Program) (call : FuncId → List AVal → Heap → Res AVal) (fuel : Nat) (a_a0 b_a1 : AVal) (h : Heap) : Res AVal :=
lt (retK P [.tmp 4]) fun k =>
arb (.val (.bool false) h) call fun v_0 h1 =>
lt (sqK (J_precentorref1_SameAttrs_0 P call fuel k) k) fun k89 =>
arb (.val a_a0 h1) call fun v_90 h91 =>
arb (.of (lenL v_90) h91) call fun v_92 h93 =>
arb (.val b_a1 h93) call fun v_94 h95 =>
arb (.of (lenL v_94) h95) call fun v_96 h97 =>
arb (.of (aBin P .neq 3 (.tmp 7) (.tmp 9) v_92 v_96) h97) call fun v_98 h99 =>
cb v_98 (
arb (.val (.bool false) h99) call fun v_100 h101 =>
k89 .ret (upd (upd (upd (upd (upd (upd (upd (enterT [a_a0, b_a1]) 4 v_0) 6 v_90) 7 v_92) 8 v_94) 9 v_96) 10 v_98) 4 v_100) h101) (
k89 .normal (upd (upd (upd (upd (upd (upd (enterT [a_a0, b_a1]) 4 v_0) 6 v_90) 7 v_92) 8 v_94) 9 v_96) 10 v_98) h99)
theorem E_precentorref1_SameAttrs (call : FuncId → List AVal → Heap → Res AVal) (fuel : Nat) (a_a0 b_a1 : AVal) (h : Heap) : bodyR Try.prog call fuel Try.f28 [a_a0, b_a1] h = S_precentorref1_SameAttrs Try.prog call fuel a_a0 b_a1 h := by kernel_rfl
theorem R_precentorref1_SameAttrs {X : XTab} (a_a0 b_a1 : AVal) {h : Heap} {Q : AVal → Heap → Prop} (hx : X F_precentorref1_SameAttrs [a_a0, b_a1] = none) (q : Tells (fun m => S_precentorref1_SameAttrs Try.prog (acallX Try.prog X m) m a_a0 b_a1 h) Q) :
    Tells (fun m => acallX Try.prog X m F_precentorref1_SameAttrs [a_a0, b_a1] h) Q :=
  Tells.later (q.le fun m => (E_precentorref1_SameAttrs (acallX Try.prog X m) m a_a0 b_a1 h) ▸ acallX_le Try.func28 hx m h)

/-! ### precentor/precentorref1.SameValue -/

def S_precentorref1_SameValue (P : Program) (call : FuncId → List AVal → Heap → Res AVal) (fuel : Nat) (a_a0 b_a1 : AVal) (h : Heap) : Res AVal :=
lt (retK P [.tmp 4]) fun k =>
arb (boxR a_a0 h) call fun a_0 h1 =>
arb (boxR b_a1 h1) call fun b_2 h3 =>
arb (.val (.bool false) h3) call fun v_4 h5 =>
obv (.of (fadR 0 a_0) h5) fun v_6 =>
obv (.of (ld1 h5 v_6) h5) fun v_8 => ifb true <|
obv (.of (fadR 0 b_2) h5) fun v_10 =>
obv (.of (ld1 h5 v_10) h5) fun v_12 => ifb true <|
obv (.of (aBin P .eql 3 (.tmp 6) (.tmp 8) v_8 v_12) h5) fun v_14 =>
obv (.val v_14 h5) fun v_16 =>
gdr (wantB v_16 true) (fun c => obv (.of (fadR 1 a_0) h5) fun v_18 =>
c true v_18 h5) h5 fun w20 v_18 h20 =>
gdr (wantB v_16 true) (fun c => obv (.of (ld1 h20 v_18) h20) fun v_21 => ifb true <|
c true v_21 h20) h20 fun w23 v_21 h23 =>
gdr (wantB v_16 true) (fun c => obv (.of (fadR 1 b_2) h23) fun v_24 =>
c true v_24 h23) h23 fun w26 v_24 h26 =>
gdr (wantB v_16 true) (fun c => obv (.of (ld1 h26 v_24) h26) fun v_27 => ifb true <|
c true v_27 h26) h26 fun w29 v_27 h29 =>
gdr (wantB v_16 true) (fun c => obv (.of (aBin P .eql 2 (.tmp 12) (.tmp 14) v_21 v_27) h29) fun v_30 =>
c true v_30 h29) h29 fun w32 v_30 h32 =>
obv (pkR v_16 v_30 (.bool false) h32) fun v_33 =>
obv (.val v_33 h32) fun v_35 =>
gdr (wantB v_35 true) (fun c => obv (.of (fadR 2 a_0) h32) fun v_37 =>
c true v_37 h32) h32 fun w39 v_37 h39 =>
gdr (wantB v_35 true) (fun c => obv (.of (ld1 h39 v_37) h39) fun v_40 => ifb true <|
c true v_40 h39) h39 fun w42 v_40 h42 =>
gdr (wantB v_35 true) (fun c => arbE (.call F_precentorref1_Bits [v_40] h42) call fun v_43 h44 => lt h44 fun g44 => ifb (true && true) <|
c true v_43 g44) h42 fun w45 v_43 h45 =>
gdr (wantB v_35 true) (fun c => obv (.of (fadR 2 b_2) h45) fun v_46 =>
c true v_46 h45) h45 fun w48 v_46 h48 =>
gdr (wantB v_35 true) (fun c => obv (.of (ld1 h48 v_46) h48) fun v_49 => ifb ((!w45 || isV v_49 (arVal (.of (ld1 h42 v_46) h42))) && true) <|
c true v_49 h48) h48 fun w51 v_49 h51 =>
gdr (wantB v_35 true) (fun c => arbE (.call F_precentorref1_Bits [v_49] h51) call fun v_52 h53 => lt h53 fun g53 => ifb (true && true) <|
c true v_52 g53) h51 fun w54 v_52 h54 =>
gdr (wantB v_35 true) (fun c => obv (.of (aBin P .eql 88 (.tmp 20) (.tmp 23) v_43 v_52) h54) fun v_55 =>
c true v_55 h54) h54 fun w57 v_55 h57 =>
obv (pkR v_35 v_55 (.bool false) h57) fun v_58 =>
obv (.val v_58 h57) fun v_60 =>
gdr (wantB v_60 true) (fun c => obv (.of (fadR 3 a_0) h57) fun v_62 =>
c true v_62 h57) h57 fun w64 v_62 h64 =>
gdr (wantB v_60 true) (fun c => obv (.of (ld1 h64 v_62) h64) fun v_65 => ifb true <|
c true v_65 h64) h64 fun w67 v_65 h67 =>
gdr (wantB v_60 true) (fun c => obv (.of (fadR 3 b_2) h67) fun v_68 =>
c true v_68 h67) h67 fun w70 v_68 h70 =>
gdr (wantB v_60 true) (fun c => obv (.of (ld1 h70 v_68) h70) fun v_71 => ifb true <|
c true v_71 h70) h70 fun w73 v_71 h73 =>
gdr (wantB v_60 true) (fun c => obv (.of (aBin P .eql 9 (.tmp 28) (.tmp 30) v_65 v_71) h73) fun v_74 =>
c true v_74 h73) h73 fun w76 v_74 h76 =>
obv (pkR v_60 v_74 (.bool false) h76) fun v_77 =>
obv (.val v_77 h76) fun v_79 =>
gdr (wantB v_79 true) (fun c => obv (.of (fadR 4 a_0) h76) fun v_81 =>
c true v_81 h76) h76 fun w83 v_81 h83 =>
gdr (wantB v_79 true) (fun c => obv (.of (ld1 h83 v_81) h83) fun v_84 => ifb true <|
c true v_84 h83) h83 fun w86 v_84 h86 =>
gdr (wantB v_79 true) (fun c => obv (.of (fadR 4 b_2) h86) fun v_87 =>
c true v_87 h86) h86 fun w89 v_87 h89 =>
gdr (wantB v_79 true) (fun c => obv (.of (ld1 h89 v_87) h89) fun v_90 => ifb true <|
c true v_90 h89) h89 fun w92 v_90 h92 =>
gdr (wantB v_79 true) (fun c => obv (.of (aBin P .eql 4 (.tmp 35) (.tmp 37) v_84 v_90) h92) fun v_93 =>
c true v_93 h92) h92 fun w95 v_93 h95 =>
obv (pkR v_79 v_93 (.bool false) h95) fun v_96 =>
obv (.val v_96 h95) fun v_98 =>
k .ret (upd (upd (upd (upd (upd (upd (upd (upd (upd (upd (upd (upd (upd (upd (upd (upd (upd (upd (upd (upd (upd (upd (upd (upd (upd (upd (upd (upd (upd (upd (upd (upd (upd (upd (upd (upd (upd (upd (upd (enterT [a_a0, b_a1]) 2 a_0) 3 b_2) 4 v_4) 5 v_6) 6 v_8) 7 v_10) 8 v_12) 9 v_14) 10 v_16) 11 v_18) 12 v_21) 13 v_24) 14 v_27) 15 v_30) 16 v_33) 17 v_35) 18 v_37) 19 v_40) 20 v_43) 21 v_46) 22 v_49) 23 v_52) 24 v_55) 25 v_58) 26 v_60) 27 v_62) 28 v_65) 29 v_68) 30 v_71) 31 v_74) 32 v_77) 33 v_79) 34 v_81) 35 v_84) 36 v_87) 37 v_90) 38 v_93) 39 v_96) 4 v_98) h95
theorem E_precentorref1_SameValue (call : FuncId → List AVal → Heap → Res AVal) (fuel : Nat) (a_a0 b_a1 : AVal) (h : Heap) : bodyR Try.prog call fuel Try.f37 [a_a0, b_a1] h = S_precentorref1_SameValue Try.prog call fuel a_a0 b_a1 h := by kernel_rfl
theorem R_precentorref1_SameValue {X : XTab} (a_a0 b_a1 : AVal) {h : Heap} {Q : AVal → Heap → Prop} (hx : X F_precentorref1_SameValue [a_a0, b_a1] = none) (q : Tells (fun m => S_precentorref1_SameValue Try.prog (acallX Try.prog X m) m a_a0 b_a1 h) Q) :
    Tells (fun m => acallX Try.prog X m F_precentorref1_SameValue [a_a0, b_a1] h) Q :=
  Tells.later (q.le fun m => (E_precentorref1_SameValue (acallX Try.prog X m) m a_a0 b_a1 h) ▸ acallX_le Try.func37 hx m h)

/-! ### precentor/precentorref1.Bits -/
def J_precentorref1_Bits_1 (P : Program) (call : FuncId → List AVal → Heap → Res AVal) (fuel : Nat) (k : Kn (AVal)) (t : T) (h : Heap) : Res (AVal) :=
arb (.val (t 0) h) call fun v_2 h3 =>
arb (.of (aNat P F_math_Float64bits [v_2]) h3) call fun v_4 h5 =>
arb (.val v_4 h5) call fun v_6 h7 =>
k .ret (upd (upd (upd t 8 v_2) 9 v_4) 2 v_6) h7

def J_precentorref1_Bits_0 (P : Program) (call : FuncId → List AVal → Heap → Res AVal) (fuel : Nat) (k : Kn (AVal)) (t : T) (h : Heap) : Res (AVal) :=
lt (sqK (J_precentorref1_Bits_1 P call fuel k) k) fun k8 =>
arb (.val (t 0) h) call fun v_9 h10 =>
arb (.of (aBin P .eql 47 (.tmp 6) (.const (.float .f64 0)) v_9 (.flt .f64 0)) h10) call fun v_11 h12 =>
cb v_11 (
arb (.val (.int .u64 0) h12) call fun v_13 h14 =>
k8 .ret (upd (upd (upd t 6 v_9) 7 v_11) 2 v_13) h14) (
k8 .normal (upd (upd t 6 v_9) 7 v_11) h12)

def S_precentorref1_Bits (P : Program) (call : FuncId → List AVal → Heap → Res AVal) (fuel : Nat) (x_a0 : AVal) (h : Heap) : Res AVal :=
lt (retK P [.tmp 2]) fun k =>
arb (.val (.int .u64 0) h) call fun v_0 h1 =>
lt (sqK (J_precentorref1_Bits_0 P call fuel k) k) fun k15 =>
arb (.val x_a0 h1) call fun v_16 h17 =>
arb (.val x_a0 h17) call fun v_18 h19 =>
arb (.of (aBin P .neq 47 (.tmp 3) (.tmp 4) v_16 v_18) h19) call fun v_20 h21 =>
cb v_20 (
arb (.val (.int .u64 9221120237041090560) h21) call fun v_22 h23 =>
k15 .ret (upd (upd (upd (upd (upd (enterT [x_a0]) 2 v_0) 3 v_16) 4 v_18) 5 v_20) 2 v_22) h23) (
k15 .normal (upd (upd (upd (upd (enterT [x_a0]) 2 v_0) 3 v_16) 4 v_18) 5 v_20) h21)
theorem E_precentorref1_Bits (call : FuncId → List AVal → Heap → Res AVal) (fuel : Nat) (x_a0 : AVal) (h : Heap) : bodyR Try.prog call fuel Try.f41 [x_a0] h = S_precentorref1_Bits Try.prog call fuel x_a0 h := by kernel_rfl
theorem R_precentorref1_Bits {X : XTab} (x_a0 : AVal) {h : Heap} {Q : AVal → Heap → Prop} (hx : X F_precentorref1_Bits [x_a0] = none) (q : Tells (fun m => S_precentorref1_Bits Try.prog (acallX Try.prog X m) m x_a0 h) Q) :
    Tells (fun m => acallX Try.prog X m F_precentorref1_Bits [x_a0] h) Q :=
  Tells.later (q.le fun m => (E_precentorref1_Bits (acallX Try.prog X m) m x_a0 h) ▸ acallX_le Try.func41 hx m h)


end Go.Proofs.Ytbpbdigehfkjjaa
