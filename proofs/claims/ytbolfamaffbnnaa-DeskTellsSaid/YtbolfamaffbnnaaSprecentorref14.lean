/-
  Functions of precentorref14 in the form of YtbolfamaffbnnaaABS (printed by a program of ours, gen.lean).
-/
import Derived.Test.YtbolfamaffbnnaaSIds
set_option linter.unusedVariables false
namespace Go.Proofs.Ytbolfamaffbnnaa
open Go.Ab
/-! ### (*precentor/precentorref14.Desk).Attach -/
def J_precentorref14_Desk_Attach_1 (P : Program) (call : FuncId → List AVal → Heap → Res AVal) (fuel : Nat) (k : Kn (AVal)) (t : T) (h : Heap) : Res (AVal) :=
arb (.val (t 0) h) call fun v_2 h3 =>
arb (.val (t 1) h3) call fun v_4 h5 =>
arb (nckR v_2 h5) call fun v_6 h7 =>
arb (.of (fadR 1 v_6) h7) call fun v_8 h9 =>
arb (.of (ixpR 7 11 v_8 v_4) h9) call fun v_10 h11 =>
arb (.of (fadR 0 v_10) h11) call fun v_12 h13 =>
arb (stR 1 h13 v_12 (.bool true)) call fun v_14 h15 =>
arb (.val (.int .i64 0) h15) call fun v_16 h17 =>
k .ret (upd (upd (upd (upd (upd (upd (upd t 18 v_2) 19 v_4) 20 v_6) 21 v_8) 22 v_10) 23 v_12) 4 v_16) h17

def J_precentorref14_Desk_Attach_0 (P : Program) (call : FuncId → List AVal → Heap → Res AVal) (fuel : Nat) (k : Kn (AVal)) (t : T) (h : Heap) : Res (AVal) :=
lt (sqK (J_precentorref14_Desk_Attach_1 P call fuel k) k) fun k18 =>
arb (.val (t 0) h) call fun v_19 h20 =>
arb (.val (t 1) h20) call fun v_21 h22 =>
arb (nckR v_19 h22) call fun v_23 h24 =>
arb (.of (fadR 1 v_23) h24) call fun v_25 h26 =>
arb (.of (ixpR 7 11 v_25 v_21) h26) call fun v_27 h28 =>
arb (.of (fadR 0 v_27) h28) call fun v_29 h30 =>
arb (.of (ld1 h30 v_29) h30) call fun v_31 h32 =>
cb v_31 (
arb (.val (.int .i64 5) h32) call fun v_33 h34 =>
k18 .ret (upd (upd (upd (upd (upd (upd (upd (upd t 11 v_19) 12 v_21) 13 v_23) 14 v_25) 15 v_27) 16 v_29) 17 v_31) 4 v_33) h34) (
k18 .normal (upd (upd (upd (upd (upd (upd (upd t 11 v_19) 12 v_21) 13 v_23) 14 v_25) 15 v_27) 16 v_29) 17 v_31) h32)

def S_precentorref14_Desk_Attach (P : Program) (call : FuncId → List AVal → Heap → Res AVal) (fuel : Nat) (d_a0 client_a1 : AVal) (h : Heap) : Res AVal :=
lt (retK P [.tmp 4]) fun k =>
arb (.val (.int .i64 0) h) call fun v_0 h1 =>
lt (sqK (J_precentorref14_Desk_Attach_0 P call fuel k) k) fun k35 =>
arb (.val client_a1 h1) call fun v_36 h37 =>
arb (.of (aBin P .lss 3 (.tmp 5) (.const (.int .i64 1)) v_36 (.int .i64 1)) h37) call fun v_38 h39 =>
arb (.val v_38 h39) call fun v_40 h41 =>
gd (wantB v_40 false) (fun c => arb (.val client_a1 h41) call c) h41 fun v_42 h43 =>
gd (wantB v_40 false) (fun c => arb (.of (aBin P .gtr 3 (.tmp 8) (.const (.int .i64 6)) v_42 (.int .i64 6)) h43) call c) h43 fun v_44 h45 =>
arb (pkR v_40 (.bool true) v_44 h45) call fun v_46 h47 =>
cb v_46 (
arb (.val (.int .i64 1) h47) call fun v_48 h49 =>
k35 .ret (upd (upd (upd (upd (upd (upd (upd (upd (enterT [d_a0, client_a1]) 4 v_0) 5 v_36) 6 v_38) 7 v_40) 8 v_42) 9 v_44) 10 v_46) 4 v_48) h49) (
k35 .normal (upd (upd (upd (upd (upd (upd (upd (enterT [d_a0, client_a1]) 4 v_0) 5 v_36) 6 v_38) 7 v_40) 8 v_42) 9 v_44) 10 v_46) h47)
theorem E_precentorref14_Desk_Attach (call : FuncId → List AVal → Heap → Res AVal) (fuel : Nat) (d_a0 client_a1 : AVal) (h : Heap) : bodyR Try.prog call fuel Try.f20 [d_a0, client_a1] h = S_precentorref14_Desk_Attach Try.prog call fuel d_a0 client_a1 h := by kernel_rfl
theorem R_precentorref14_Desk_Attach {X : XTab} (d_a0 client_a1 : AVal) {h : Heap} {Q : AVal → Heap → Prop} (hx : X F_precentorref14_Desk_Attach [d_a0, client_a1] = none) (q : Tells (fun m => S_precentorref14_Desk_Attach Try.prog (acallX Try.prog X m) m d_a0 client_a1 h) Q) :
    Tells (fun m => acallX Try.prog X m F_precentorref14_Desk_Attach [d_a0, client_a1] h) Q :=
  Tells.later (q.le fun m => (E_precentorref14_Desk_Attach (acallX Try.prog X m) m d_a0 client_a1 h) ▸ acallX_le Try.func20 hx m h)

/-! ### (*precentor/precentorref14.Desk).Subscribe -/
def J_precentorref14_Desk_Subscribe_1 (P : Program) (call : FuncId → List AVal → Heap → Res AVal) (fuel : Nat) (k : Kn (AVal)) (t : T) (h : Heap) : Res (AVal) :=
arb (.val (t 8) h) call fun v_16 h17 =>
arb (nckR v_16 h17) call fun v_18 h19 =>
arb (.of (fadR 1 v_18) h19) call fun v_20 h21 =>
arb (.of (ld1 h21 v_20) h21) call fun v_22 h23 =>
arb (.of (aBin P .add 3 (.tmp 48) (.const (.int .i64 1)) v_22 (.int .i64 1)) h23) call fun v_24 h25 =>
arb (nckR v_16 h25) call fun v_26 h27 =>
arb (.of (fadR 1 v_26) h27) call fun v_28 h29 =>
arb (stR 1 h29 v_28 v_24) call fun v_30 h31 =>
arb (.val (t 8) h31) call fun v_32 h33 =>
arb (nckR v_32 h33) call fun v_34 h35 =>
arb (.of (fadR 7 v_34) h35) call fun v_36 h37 =>
arb (stR 1 h37 v_36 (.bool true)) call fun v_38 h39 =>
obv (.val (t 8) h39) fun v_40 =>
obv (.val (t 1) h39) fun v_42 =>
obv (.val (t 0) h39) fun v_44 =>
obv (nckR v_44 h39) fun v_46 =>
obv (.of (fadR 0 v_46) h39) fun v_48 =>
obv (.of (ld1 h39 v_48) h39) fun v_50 => ifb true <|
obv (.val (t 8) h39) fun v_52 =>
obv (nckR v_52 h39) fun v_54 =>
obv (.of (fadR 1 v_54) h39) fun v_56 =>
obv (.of (ld1 h39 v_56) h39) fun v_58 => ifb true <|
obv (.val (t 2) h39) fun v_60 =>
obv (.of (bldR [(.int .i64 0), (.int .i64 0), (.int .i64 0), .nils] [(0, 1, v_42), (1, 1, v_50), (2, 1, v_58), (3, 1, v_60)]) h39) fun v_62 =>
obv (.of (bldR [(.bool false), (.int .i64 0), (.int .i64 0), (.int .i64 0), .nils] [(1, 4, v_62)]) h39) fun v_64 =>
obv (nckR v_40 h39) fun v_66 =>
obv (.of (fadR 2 v_66) h39) fun v_68 =>
arbE (stR 5 h39 v_68 v_64) call fun v_70 h71 => lt h71 fun g71 => ifb (true && true) <|
arb (.val (t 8) g71) call fun v_72 h73 =>
arb (nckR v_72 h73) call fun v_74 h75 =>
arb (.of (fadR 2 v_74) h75) call fun v_76 h77 =>
arb (.of (ldn 5 h77 v_76) h77) call fun v_78 h79 =>
arb (stR 5 h79 (t 6) v_78) call fun v_80 h81 =>
arb (.val (.int .i64 0) h81) call fun v_82 h83 =>
k .ret (upd (upd (upd (upd (upd (upd (upd (upd (upd (upd (upd (upd (upd (upd (upd (upd (upd (upd (upd (upd (upd (upd (upd (upd (upd (upd (upd (upd (upd (upd t 45 v_16) 46 v_18) 47 v_20) 48 v_22) 49 v_24) 50 v_26) 51 v_28) 52 v_32) 53 v_34) 54 v_36) 55 v_40) 56 v_42) 57 v_44) 58 v_46) 59 v_48) 60 v_50) 61 v_52) 62 v_54) 63 v_56) 64 v_58) 65 v_60) 66 v_62) 67 v_64) 68 v_66) 69 v_68) 70 v_72) 71 v_74) 72 v_76) 73 v_78) 7 v_82) h83

def J_precentorref14_Desk_Subscribe_0 (P : Program) (call : FuncId → List AVal → Heap → Res AVal) (fuel : Nat) (k : Kn (AVal)) (t : T) (h : Heap) : Res (AVal) :=
arb (.val (t 0) h) call fun v_4 h5 =>
arb (.val (t 1) h5) call fun v_6 h7 =>
arb (nckR v_4 h7) call fun v_8 h9 =>
arb (.of (fadR 1 v_8) h9) call fun v_10 h11 =>
arb (.of (ixpR 7 11 v_10 v_6) h11) call fun v_12 h13 =>
arb (.val v_12 h13) call fun x_14 h15 =>
lt (sqK (J_precentorref14_Desk_Subscribe_1 P call fuel k) k) fun k84 =>
lt (blkK 0 k84) fun k85 =>
arb (.val (t 2) h15) call fun v_86 h87 =>
arb (.call F_precentorref1_RightFilter [v_86] h87) call fun v_88 h89 =>
arb (.of (aUn P .not v_88) h89) call fun v_90 h91 =>
arb (.val v_90 h91) call fun v_92 h93 =>
cb v_92 (
arb (.of (bldR [(.bool false), (.int .i64 0), (.int .i64 0), (.int .i64 0), .nils] []) h93) call fun v_94 h95 =>
arb (stR 5 h95 (t 6) v_94) call fun v_96 h97 =>
arb (.val (.int .i64 3) h97) call fun v_98 h99 =>
k85 .ret (upd (upd (upd (upd (upd (upd (upd (upd (upd (upd (upd (upd t 14 v_4) 15 v_6) 16 v_8) 17 v_10) 18 v_12) 8 x_14) 20 v_86) 21 v_88) 22 v_90) 19 v_92) 23 v_94) 7 v_98) h99) (
arb (.val x_14 h93) call fun v_100 h101 =>
arb (nckR v_100 h101) call fun v_102 h103 =>
arb (.of (fadR 7 v_102) h103) call fun v_104 h105 =>
arb (.of (ld1 h105 v_104) h105) call fun v_106 h107 =>
arb (.val v_106 h107) call fun v_108 h109 =>
cb v_108 (
arb (.of (bldR [(.bool false), (.int .i64 0), (.int .i64 0), (.int .i64 0), .nils] []) h109) call fun v_110 h111 =>
arb (stR 5 h111 (t 6) v_110) call fun v_112 h113 =>
arb (.val (.int .i64 7) h113) call fun v_114 h115 =>
k85 .ret (upd (upd (upd (upd (upd (upd (upd (upd (upd (upd (upd (upd (upd (upd (upd (upd (upd t 14 v_4) 15 v_6) 16 v_8) 17 v_10) 18 v_12) 8 x_14) 20 v_86) 21 v_88) 22 v_90) 19 v_92) 25 v_100) 26 v_102) 27 v_104) 28 v_106) 24 v_108) 29 v_110) 7 v_114) h115) (
arb (.val x_14 h109) call fun v_116 h117 =>
arb (nckR v_116 h117) call fun v_118 h119 =>
arb (.of (fadR 8 v_118) h119) call fun v_120 h121 =>
arb (.of (ld1 h121 v_120) h121) call fun v_122 h123 =>
arb (.of (lenL v_122) h123) call fun v_124 h125 =>
arb (.of (aBin P .geq 3 (.tmp 35) (.const (.int .i64 3)) v_124 (.int .i64 3)) h125) call fun v_126 h127 =>
arb (.val v_126 h127) call fun v_128 h129 =>
cb v_128 (
arb (.of (bldR [(.bool false), (.int .i64 0), (.int .i64 0), (.int .i64 0), .nils] []) h129) call fun v_130 h131 =>
arb (stR 5 h131 (t 6) v_130) call fun v_132 h133 =>
arb (.val (.int .i64 6) h133) call fun v_134 h135 =>
k85 .ret (upd (upd (upd (upd (upd (upd (upd (upd (upd (upd (upd (upd (upd (upd (upd (upd (upd (upd (upd (upd (upd (upd (upd (upd t 14 v_4) 15 v_6) 16 v_8) 17 v_10) 18 v_12) 8 x_14) 20 v_86) 21 v_88) 22 v_90) 19 v_92) 25 v_100) 26 v_102) 27 v_104) 28 v_106) 24 v_108) 31 v_116) 32 v_118) 33 v_120) 34 v_122) 35 v_124) 36 v_126) 30 v_128) 37 v_130) 7 v_134) h135) (
arb (.val x_14 h129) call fun v_136 h137 =>
arb (nckR v_136 h137) call fun v_138 h139 =>
arb (.of (fadR 1 v_138) h139) call fun v_140 h141 =>
arb (.of (ld1 h141 v_140) h141) call fun v_142 h143 =>
arb (.of (aBin P .geq 3 (.tmp 42) (.const (.int .i64 4611686018427387904)) v_142 (.int .i64 4611686018427387904)) h143) call fun v_144 h145 =>
arb (.val v_144 h145) call fun v_146 h147 =>
cb v_146 (
arb (.of (bldR [(.bool false), (.int .i64 0), (.int .i64 0), (.int .i64 0), .nils] []) h147) call fun v_148 h149 =>
arb (stR 5 h149 (t 6) v_148) call fun v_150 h151 =>
arb (.val (.int .i64 8) h151) call fun v_152 h153 =>
k85 .ret (upd (upd (upd (upd (upd (upd (upd (upd (upd (upd (upd (upd (upd (upd (upd (upd (upd (upd (upd (upd (upd (upd (upd (upd (upd (upd (upd (upd (upd (upd t 14 v_4) 15 v_6) 16 v_8) 17 v_10) 18 v_12) 8 x_14) 20 v_86) 21 v_88) 22 v_90) 19 v_92) 25 v_100) 26 v_102) 27 v_104) 28 v_106) 24 v_108) 31 v_116) 32 v_118) 33 v_120) 34 v_122) 35 v_124) 36 v_126) 30 v_128) 39 v_136) 40 v_138) 41 v_140) 42 v_142) 43 v_144) 38 v_146) 44 v_148) 7 v_152) h153) (
k85 .normal (upd (upd (upd (upd (upd (upd (upd (upd (upd (upd (upd (upd (upd (upd (upd (upd (upd (upd (upd (upd (upd (upd (upd (upd (upd (upd (upd (upd t 14 v_4) 15 v_6) 16 v_8) 17 v_10) 18 v_12) 8 x_14) 20 v_86) 21 v_88) 22 v_90) 19 v_92) 25 v_100) 26 v_102) 27 v_104) 28 v_106) 24 v_108) 31 v_116) 32 v_118) 33 v_120) 34 v_122) 35 v_124) 36 v_126) 30 v_128) 39 v_136) 40 v_138) 41 v_140) 42 v_142) 43 v_144) 38 v_146) h147))))

theorem C_precentorref14_Desk_Subscribe_0 (h : Heap) (a : AVal) : aLoad Try.prog h 30 a = ldn 5 h a := by kernel_rfl
def S_precentorref14_Desk_Subscribe (P : Program) (call : FuncId → List AVal → Heap → Res AVal) (fuel : Nat) (d_a0 client_a1 f_a2 : AVal) (h : Heap) : Res AVal :=
lt (retK P [.cell 6 30, .tmp 7]) fun k =>
arb (newR [(.bool false), (.int .i64 0), (.int .i64 0), (.int .i64 0), .nils] h) call fun v_0 h1 =>
arb (.val (.int .i64 0) h1) call fun v_2 h3 =>
lt (sqK (J_precentorref14_Desk_Subscribe_0 P call fuel k) k) fun k154 =>
arb (.val d_a0 h3) call fun v_155 h156 =>
arb (.val client_a1 h156) call fun v_157 h158 =>
arb (.call F_precentorref14_Desk_Here [v_155, v_157] h158) call fun v_159 h160 =>
arb (.of (aUn P .not v_159) h160) call fun v_161 h162 =>
cb v_161 (
arb (.of (bldR [(.bool false), (.int .i64 0), (.int .i64 0), (.int .i64 0), .nils] []) h162) call fun v_163 h164 =>
arb (stR 5 h164 v_0 v_163) call fun v_165 h166 =>
arb (.val (.int .i64 4) h166) call fun v_167 h168 =>
k154 .ret (upd (upd (upd (upd (upd (upd (upd (upd (enterT [d_a0, client_a1, f_a2]) 6 v_0) 7 v_2) 9 v_155) 10 v_157) 11 v_159) 12 v_161) 13 v_163) 7 v_167) h168) (
k154 .normal (upd (upd (upd (upd (upd (upd (enterT [d_a0, client_a1, f_a2]) 6 v_0) 7 v_2) 9 v_155) 10 v_157) 11 v_159) 12 v_161) h162)
theorem E_precentorref14_Desk_Subscribe (call : FuncId → List AVal → Heap → Res AVal) (fuel : Nat) (d_a0 client_a1 f_a2 : AVal) (h : Heap) : bodyR Try.prog call fuel Try.f22 [d_a0, client_a1, f_a2] h = S_precentorref14_Desk_Subscribe Try.prog call fuel d_a0 client_a1 f_a2 h := by kernel_rfl
theorem R_precentorref14_Desk_Subscribe {X : XTab} (d_a0 client_a1 f_a2 : AVal) {h : Heap} {Q : AVal → Heap → Prop} (hx : X F_precentorref14_Desk_Subscribe [d_a0, client_a1, f_a2] = none) (q : Tells (fun m => S_precentorref14_Desk_Subscribe Try.prog (acallX Try.prog X m) m d_a0 client_a1 f_a2 h) Q) :
    Tells (fun m => acallX Try.prog X m F_precentorref14_Desk_Subscribe [d_a0, client_a1, f_a2] h) Q :=
  Tells.later (q.le fun m => (E_precentorref14_Desk_Subscribe (acallX Try.prog X m) m d_a0 client_a1 f_a2 h) ▸ acallX_le Try.func22 hx m h)

/-! ### (*precentor/precentorref14.Desk).Unsubscribe -/
def J_precentorref14_Desk_Unsubscribe_2 (P : Program) (call : FuncId → List AVal → Heap → Res AVal) (fuel : Nat) (k : Kn (AVal)) (t : T) (h : Heap) : Res (AVal) :=
arb (.val (t 8) h) call fun v_16 h17 =>
arb (nckR v_16 h17) call fun v_18 h19 =>
arb (.of (fadR 7 v_18) h19) call fun v_20 h21 =>
arb (stR 1 h21 v_20 (.bool true)) call fun v_22 h23 =>
arb (.val (t 8) h23) call fun v_24 h25 =>
arb (.val (t 1) h25) call fun v_26 h27 =>
arb (.val (t 0) h27) call fun v_28 h29 =>
arb (nckR v_28 h29) call fun v_30 h31 =>
arb (.of (fadR 0 v_30) h31) call fun v_32 h33 =>
arb (.of (ld1 h33 v_32) h33) call fun v_34 h35 =>
arb (.val (t 2) h35) call fun v_36 h37 =>
arb (.of (bldR [(.int .i64 0), (.int .i64 0), (.int .i64 0), .nils] [(0, 1, v_26), (1, 1, v_34), (2, 1, v_36)]) h37) call fun v_38 h39 =>
arb (.of (bldR [(.bool false), (.int .i64 0), (.int .i64 0), (.int .i64 0), .nils] [(0, 1, (.bool true)), (1, 4, v_38)]) h39) call fun v_40 h41 =>
arb (nckR v_24 h41) call fun v_42 h43 =>
arb (.of (fadR 2 v_42) h43) call fun v_44 h45 =>
arb (stR 5 h45 v_44 v_40) call fun v_46 h47 =>
arb (.val (t 8) h47) call fun v_48 h49 =>
arb (nckR v_48 h49) call fun v_50 h51 =>
arb (.of (fadR 2 v_50) h51) call fun v_52 h53 =>
arb (.of (ldn 5 h53 v_52) h53) call fun v_54 h55 =>
arb (stR 5 h55 (t 6) v_54) call fun v_56 h57 =>
arb (.val (.int .i64 0) h57) call fun v_58 h59 =>
k .ret (upd (upd (upd (upd (upd (upd (upd (upd (upd (upd (upd (upd (upd (upd (upd (upd (upd (upd (upd t 33 v_16) 34 v_18) 35 v_20) 36 v_24) 37 v_26) 38 v_28) 39 v_30) 40 v_32) 41 v_34) 42 v_36) 43 v_38) 44 v_40) 45 v_42) 46 v_44) 47 v_48) 48 v_50) 49 v_52) 50 v_54) 7 v_58) h59

def J_precentorref14_Desk_Unsubscribe_1 (P : Program) (call : FuncId → List AVal → Heap → Res AVal) (fuel : Nat) (k : Kn (AVal)) (t : T) (h : Heap) : Res (AVal) :=
lt (sqK (J_precentorref14_Desk_Unsubscribe_2 P call fuel k) k) fun k60 =>
arb (.val (t 8) h) call fun v_61 h62 =>
arb (nckR v_61 h62) call fun v_63 h64 =>
arb (.of (fadR 8 v_63) h64) call fun v_65 h66 =>
arb (.of (ld1 h66 v_65) h66) call fun v_67 h68 =>
arb (.val (t 1) h68) call fun v_69 h70 =>
arb (.val (t 2) h70) call fun v_71 h72 =>
arb (.call F_precentorref9_Has [v_67, v_69, v_71] h72) call fun v_73 h74 =>
arb (.of (aUn P .not v_73) h74) call fun v_75 h76 =>
cb v_75 (
arb (.of (bldR [(.bool false), (.int .i64 0), (.int .i64 0), (.int .i64 0), .nils] []) h76) call fun v_77 h78 =>
arb (stR 5 h78 (t 6) v_77) call fun v_79 h80 =>
arb (.val (.int .i64 4) h80) call fun v_81 h82 =>
k60 .ret (upd (upd (upd (upd (upd (upd (upd (upd (upd (upd t 24 v_61) 25 v_63) 26 v_65) 27 v_67) 28 v_69) 29 v_71) 30 v_73) 31 v_75) 32 v_77) 7 v_81) h82) (
k60 .normal (upd (upd (upd (upd (upd (upd (upd (upd t 24 v_61) 25 v_63) 26 v_65) 27 v_67) 28 v_69) 29 v_71) 30 v_73) 31 v_75) h76)

def J_precentorref14_Desk_Unsubscribe_0 (P : Program) (call : FuncId → List AVal → Heap → Res AVal) (fuel : Nat) (k : Kn (AVal)) (t : T) (h : Heap) : Res (AVal) :=
arb (.val (t 0) h) call fun v_4 h5 =>
arb (.val (t 1) h5) call fun v_6 h7 =>
arb (nckR v_4 h7) call fun v_8 h9 =>
arb (.of (fadR 1 v_8) h9) call fun v_10 h11 =>
arb (.of (ixpR 7 11 v_10 v_6) h11) call fun v_12 h13 =>
arb (.val v_12 h13) call fun x_14 h15 =>
lt (sqK (J_precentorref14_Desk_Unsubscribe_1 P call fuel k) k) fun k83 =>
arb (.val x_14 h15) call fun v_84 h85 =>
arb (nckR v_84 h85) call fun v_86 h87 =>
arb (.of (fadR 7 v_86) h87) call fun v_88 h89 =>
arb (.of (ld1 h89 v_88) h89) call fun v_90 h91 =>
cb v_90 (
arb (.of (bldR [(.bool false), (.int .i64 0), (.int .i64 0), (.int .i64 0), .nils] []) h91) call fun v_92 h93 =>
arb (stR 5 h93 (t 6) v_92) call fun v_94 h95 =>
arb (.val (.int .i64 7) h95) call fun v_96 h97 =>
k83 .ret (upd (upd (upd (upd (upd (upd (upd (upd (upd (upd (upd (upd t 14 v_4) 15 v_6) 16 v_8) 17 v_10) 18 v_12) 8 x_14) 19 v_84) 20 v_86) 21 v_88) 22 v_90) 23 v_92) 7 v_96) h97) (
k83 .normal (upd (upd (upd (upd (upd (upd (upd (upd (upd (upd t 14 v_4) 15 v_6) 16 v_8) 17 v_10) 18 v_12) 8 x_14) 19 v_84) 20 v_86) 21 v_88) 22 v_90) h91)

theorem C_precentorref14_Desk_Unsubscribe_0 (h : Heap) (a : AVal) : aLoad Try.prog h 30 a = ldn 5 h a := by kernel_rfl
def S_precentorref14_Desk_Unsubscribe (P : Program) (call : FuncId → List AVal → Heap → Res AVal) (fuel : Nat) (d_a0 client_a1 num_a2 : AVal) (h : Heap) : Res AVal :=
lt (retK P [.cell 6 30, .tmp 7]) fun k =>
arb (newR [(.bool false), (.int .i64 0), (.int .i64 0), (.int .i64 0), .nils] h) call fun v_0 h1 =>
arb (.val (.int .i64 0) h1) call fun v_2 h3 =>
lt (sqK (J_precentorref14_Desk_Unsubscribe_0 P call fuel k) k) fun k98 =>
arb (.val d_a0 h3) call fun v_99 h100 =>
arb (.val client_a1 h100) call fun v_101 h102 =>
arb (.call F_precentorref14_Desk_Here [v_99, v_101] h102) call fun v_103 h104 =>
arb (.of (aUn P .not v_103) h104) call fun v_105 h106 =>
cb v_105 (
arb (.of (bldR [(.bool false), (.int .i64 0), (.int .i64 0), (.int .i64 0), .nils] []) h106) call fun v_107 h108 =>
arb (stR 5 h108 v_0 v_107) call fun v_109 h110 =>
arb (.val (.int .i64 4) h110) call fun v_111 h112 =>
k98 .ret (upd (upd (upd (upd (upd (upd (upd (upd (enterT [d_a0, client_a1, num_a2]) 6 v_0) 7 v_2) 9 v_99) 10 v_101) 11 v_103) 12 v_105) 13 v_107) 7 v_111) h112) (
k98 .normal (upd (upd (upd (upd (upd (upd (enterT [d_a0, client_a1, num_a2]) 6 v_0) 7 v_2) 9 v_99) 10 v_101) 11 v_103) 12 v_105) h106)
theorem E_precentorref14_Desk_Unsubscribe (call : FuncId → List AVal → Heap → Res AVal) (fuel : Nat) (d_a0 client_a1 num_a2 : AVal) (h : Heap) : bodyR Try.prog call fuel Try.f24 [d_a0, client_a1, num_a2] h = S_precentorref14_Desk_Unsubscribe Try.prog call fuel d_a0 client_a1 num_a2 h := by kernel_rfl
theorem R_precentorref14_Desk_Unsubscribe {X : XTab} (d_a0 client_a1 num_a2 : AVal) {h : Heap} {Q : AVal → Heap → Prop} (hx : X F_precentorref14_Desk_Unsubscribe [d_a0, client_a1, num_a2] = none) (q : Tells (fun m => S_precentorref14_Desk_Unsubscribe Try.prog (acallX Try.prog X m) m d_a0 client_a1 num_a2 h) Q) :
    Tells (fun m => acallX Try.prog X m F_precentorref14_Desk_Unsubscribe [d_a0, client_a1, num_a2] h) Q :=
  Tells.later (q.le fun m => (E_precentorref14_Desk_Unsubscribe (acallX Try.prog X m) m d_a0 client_a1 num_a2 h) ▸ acallX_le Try.func24 hx m h)

/-! ### (*precentor/precentorref14.Desk).Open -/
def J_precentorref14_Desk_Open_2 (P : Program) (call : FuncId → List AVal → Heap → Res AVal) (fuel : Nat) (k : Kn (Ex × T)) (t : T) (h : Heap) : Res (Ex × T) :=
arb (.val (t 4) h) call fun v_3 h4 =>
arb (.of (aBin P .add 3 (.tmp 8) (.const (.int .i64 1)) v_3 (.int .i64 1)) h4) call fun v_5 h6 =>
arb (.val v_5 h6) call fun c_7 h8 =>
k .normal (upd (upd (upd t 8 v_3) 9 v_5) 4 c_7) h8

def J_precentorref14_Desk_Open_3 (P : Program) (call : FuncId → List AVal → Heap → Res AVal) (fuel : Nat) (k : Kn (Ex × T)) (t : T) (h : Heap) : Res (Ex × T) :=
arb (.val (t 5) h) call fun v_23 h24 =>
arb (.val (t 1) h24) call fun v_25 h26 =>
arb (.val (t 4) h26) call fun v_27 h28 =>
arb (.call F_precentorref9_Of [v_25, v_27] h28) call fun v_29 h30 =>
arb (nckR v_23 h30) call fun v_31 h32 =>
arb (.of (fadR 8 v_31) h32) call fun v_33 h34 =>
arb (stR 1 h34 v_33 v_29) call fun v_35 h36 =>
obv (.val (t 5) h36) fun v_37 =>
obv (nckR v_37 h36) fun v_39 =>
obv (.of (fadR 7 v_39) h36) fun v_41 =>
obv (.of (ld1 h36 v_41) h36) fun v_43 => ifb true <|
obv (.val v_43 h36) fun v_45 =>
gdr (wantB v_45 true) (fun c => obv (.val (t 5) h36) fun v_47 =>
c true v_47 h36) h36 fun w49 v_47 h49 =>
gdr (wantB v_45 true) (fun c => obv (nckR v_47 h49) fun v_50 =>
c true v_50 h49) h49 fun w52 v_50 h52 =>
gdr (wantB v_45 true) (fun c => obv (.of (fadR 8 v_50) h52) fun v_53 =>
c true v_53 h52) h52 fun w55 v_53 h55 =>
gdr (wantB v_45 true) (fun c => obv (.of (ld1 h55 v_53) h55) fun v_56 => ifb true <|
c true v_56 h55) h55 fun w58 v_56 h58 =>
gdr (wantB v_45 true) (fun c => obv (.val (t 4) h58) fun v_59 =>
c true v_59 h58) h58 fun w61 v_59 h61 =>
gdr (wantB v_45 true) (fun c => obv (.val (t 5) h61) fun v_62 =>
c true v_62 h61) h61 fun w64 v_62 h64 =>
gdr (wantB v_45 true) (fun c => obv (nckR v_62 h64) fun v_65 =>
c true v_65 h64) h64 fun w67 v_65 h67 =>
gdr (wantB v_45 true) (fun c => obv (.of (fadR 2 v_65) h67) fun v_68 =>
c true v_68 h67) h67 fun w70 v_68 h70 =>
gdr (wantB v_45 true) (fun c => obv (.of (fadR 1 v_68) h70) fun v_71 =>
c true v_71 h70) h70 fun w73 v_71 h73 =>
gdr (wantB v_45 true) (fun c => obv (.of (fadR 2 v_71) h73) fun v_74 =>
c true v_74 h73) h73 fun w76 v_74 h76 =>
gdr (wantB v_45 true) (fun c => obv (.of (ld1 h76 v_74) h76) fun v_77 => ifb true <|
c true v_77 h76) h76 fun w79 v_77 h79 =>
gdr (wantB v_45 true) (fun c => arbE (.call F_precentorref9_Has [v_56, v_59, v_77] h79) call fun v_80 h81 => lt h81 fun g81 => ifb (true && true) <|
c true v_80 g81) h79 fun w82 v_80 h82 =>
gdr (wantB v_45 true) (fun c => obv (.val (t 5) h82) fun v_83 =>
c true v_83 h82) h82 fun w85 v_83 h85 =>
gdr (wantB v_45 true) (fun c => obv (nckR v_83 h85) fun v_86 =>
c true v_86 h85) h85 fun w88 v_86 h88 =>
gdr (wantB v_45 true) (fun c => obv (.of (fadR 2 v_86) h88) fun v_89 =>
c true v_89 h88) h88 fun w91 v_89 h91 =>
gdr (wantB v_45 true) (fun c => obv (.of (fadR 0 v_89) h91) fun v_92 =>
c true v_92 h91) h91 fun w94 v_92 h94 =>
gdr (wantB v_45 true) (fun c => obv (.of (ld1 h94 v_92) h94) fun v_95 => ifb ((!w82 || isV v_95 (arVal (.of (ld1 h79 v_92) h79))) && true) <|
c true v_95 h94) h94 fun w97 v_95 h97 =>
gdr (wantB v_45 true) (fun c => obv (.of (aBin P .neq 4 (.tmp 42) (.tmp 47) v_80 v_95) h97) fun v_98 =>
c true v_98 h97) h97 fun w100 v_98 h100 =>
obv (pkR v_45 v_98 (.bool false) h100) fun v_101 =>
cb v_101 (
arb (.val (t 5) h100) call fun v_103 h104 =>
arb (nckR v_103 h104) call fun v_105 h106 =>
arb (.of (fadR 7 v_105) h106) call fun v_107 h108 =>
arb (stR 1 h108 v_107 (.bool false)) call fun v_109 h110 =>
k .normal (upd (upd (upd (upd (upd (upd (upd (upd (upd (upd (upd (upd (upd (upd (upd (upd (upd (upd (upd (upd (upd (upd (upd (upd (upd (upd (upd (upd (upd (upd (upd (upd (upd t 20 v_23) 21 v_25) 22 v_27) 23 v_29) 24 v_31) 25 v_33) 26 v_37) 27 v_39) 28 v_41) 29 v_43) 30 v_45) 31 v_47) 32 v_50) 33 v_53) 34 v_56) 35 v_59) 36 v_62) 37 v_65) 38 v_68) 39 v_71) 40 v_74) 41 v_77) 42 v_80) 43 v_83) 44 v_86) 45 v_89) 46 v_92) 47 v_95) 48 v_98) 49 v_101) 50 v_103) 51 v_105) 52 v_107) h110) (
k .normal (upd (upd (upd (upd (upd (upd (upd (upd (upd (upd (upd (upd (upd (upd (upd (upd (upd (upd (upd (upd (upd (upd (upd (upd (upd (upd (upd (upd (upd (upd t 20 v_23) 21 v_25) 22 v_27) 23 v_29) 24 v_31) 25 v_33) 26 v_37) 27 v_39) 28 v_41) 29 v_43) 30 v_45) 31 v_47) 32 v_50) 33 v_53) 34 v_56) 35 v_59) 36 v_62) 37 v_65) 38 v_68) 39 v_71) 40 v_74) 41 v_77) 42 v_80) 43 v_83) 44 v_86) 45 v_89) 46 v_92) 47 v_95) 48 v_98) 49 v_101) h100)

def J_precentorref14_Desk_Open_1 (P : Program) (call : FuncId → List AVal → Heap → Res AVal) (fuel : Nat) (k : Kn (Ex × T)) (t : T) (h : Heap) : Res (Ex × T) :=
lt (sqK (J_precentorref14_Desk_Open_2 P call fuel k) k) fun k9 =>
lt (blkK 1 k9) fun k10 =>
arb (.val (t 0) h) call fun v_11 h12 =>
arb (.val (t 4) h12) call fun v_13 h14 =>
arb (nckR v_11 h14) call fun v_15 h16 =>
arb (.of (fadR 1 v_15) h16) call fun v_17 h18 =>
arb (.of (ixpR 7 11 v_17 v_13) h18) call fun v_19 h20 =>
arb (.val v_19 h20) call fun x_21 h22 =>
lt (sqK (J_precentorref14_Desk_Open_3 P call fuel k10) k10) fun k111 =>
arb (.val x_21 h22) call fun v_112 h113 =>
arb (nckR v_112 h113) call fun v_114 h115 =>
arb (.of (fadR 0 v_114) h115) call fun v_116 h117 =>
arb (.of (ld1 h117 v_116) h117) call fun v_118 h119 =>
arb (.of (aUn P .not v_118) h119) call fun v_120 h121 =>
cb v_120 (
k111 (.exit 1) (upd (upd (upd (upd (upd (upd (upd (upd (upd (upd (upd t 10 v_11) 11 v_13) 12 v_15) 13 v_17) 14 v_19) 5 x_21) 15 v_112) 16 v_114) 17 v_116) 18 v_118) 19 v_120) h121) (
k111 .normal (upd (upd (upd (upd (upd (upd (upd (upd (upd (upd (upd t 10 v_11) 11 v_13) 12 v_15) 13 v_17) 14 v_19) 5 x_21) 15 v_112) 16 v_114) 17 v_116) 18 v_118) 19 v_120) h121)

def L_precentorref14_Desk_Open_0 (P : Program) (call : FuncId → List AVal → Heap → Res AVal) (fuel : Nat) (t : T) (h : Heap) : Res (Ex × T) :=
lt okK fun k =>
lt (sqK (J_precentorref14_Desk_Open_1 P call fuel k) k) fun k122 =>
arb (.val (t 4) h) call fun v_123 h124 =>
arb (.of (aBin P .leq 3 (.tmp 6) (.const (.int .i64 6)) v_123 (.int .i64 6)) h124) call fun v_125 h126 =>
cb v_125 (
k122 .normal (upd (upd t 6 v_123) 7 v_125) h126) (
k122 (.exit 0) (upd (upd t 6 v_123) 7 v_125) h126)

def S_precentorref14_Desk_Open (P : Program) (call : FuncId → List AVal → Heap → Res AVal) (fuel : Nat) (d_a0 l_a1 : AVal) (h : Heap) : Res AVal :=
lt (retK P []) fun k =>
arb (.val (.int .i64 1) h) call fun c_0 h1 =>
lt (blkK 0 k) fun k2 =>
(loopN (L_precentorref14_Desk_Open_0 P call fuel) fuel (upd (enterT [d_a0, l_a1]) 4 c_0) h1).bind (lpK k2)
theorem E_precentorref14_Desk_Open (call : FuncId → List AVal → Heap → Res AVal) (fuel : Nat) (d_a0 l_a1 : AVal) (h : Heap) : bodyR Try.prog call fuel Try.f26 [d_a0, l_a1] h = S_precentorref14_Desk_Open Try.prog call fuel d_a0 l_a1 h := by kernel_rfl
theorem R_precentorref14_Desk_Open {X : XTab} (d_a0 l_a1 : AVal) {h : Heap} {Q : AVal → Heap → Prop} (hx : X F_precentorref14_Desk_Open [d_a0, l_a1] = none) (q : Tells (fun m => S_precentorref14_Desk_Open Try.prog (acallX Try.prog X m) m d_a0 l_a1 h) Q) :
    Tells (fun m => acallX Try.prog X m F_precentorref14_Desk_Open [d_a0, l_a1] h) Q :=
  Tells.later (q.le fun m => (E_precentorref14_Desk_Open (acallX Try.prog X m) m d_a0 l_a1 h) ▸ acallX_le Try.func26 hx m h)

/-! ### (*precentor/precentorref14.Desk).Hear -/
def J_precentorref14_Desk_Hear_0 (P : Program) (call : FuncId → List AVal → Heap → Res AVal) (fuel : Nat) (k : Kn (AVal)) (t : T) (h : Heap) : Res (AVal) :=
obv (.val (t 0) h) fun v_4 =>
obv (.val (t 1) h) fun v_6 =>
arbV (bslR 4 [] 0 h []) fun v_8 h9 =>
obv (.val (t 0) h9) fun v_10 =>
obv (.val (t 1) h9) fun v_12 =>
obv (nckR v_10 h9) fun v_14 =>
obv (.of (fadR 1 v_14) h9) fun v_16 =>
obv (.of (ixpR 7 11 v_16 v_12) h9) fun v_18 =>
obv (.of (fadR 9 v_18) h9) fun v_20 =>
obv (.of (ld1 (killIf true h9 h.next) v_20) (killIf true h9 h.next)) fun v_22 => ifb true <|
arbE (appR 4 48 h9 v_8 v_22) call fun v_24 h25 => lt h25 fun g25 => ifb (true && true) <|
obv (.of (ldn 4 (killIf true g25 h.next) (t 5)) (killIf true g25 h.next)) fun v_26 => ifb (isV v_26 (arVal (.of (ldn 4 (killIf true h9 h.next) (t 5)) (killIf true h9 h.next))) && true) <|
arbV (bslR 4 [(.int .i64 0), (.int .i64 0), (.int .i64 0), .nils] 1 g25 [(0, 4, v_26)]) fun v_28 h29 =>
arbE (appR 4 48 h29 v_24 v_28) call fun v_30 h31 => lt h31 fun g31 => ifb (true && true) <|
obv (nckR v_4 g31) fun v_32 =>
obv (.of (fadR 1 v_32) g31) fun v_34 =>
obv (.of (ixpR 7 11 v_34 v_6) g31) fun v_36 =>
obv (.of (fadR 9 v_36) g31) fun v_38 =>
arbE (stR 1 g31 v_38 v_30) call fun v_40 h41 => lt h41 fun g41 => ifb (true && true) <|
arb (.val (.bool true) g41) call fun v_42 h43 =>
k .ret (upd (upd (upd (upd (upd (upd (upd (upd (upd (upd (upd (upd (upd (upd (upd (upd (upd (upd (upd t 11 v_4) 12 v_6) 13 v_8) 14 v_10) 15 v_12) 16 v_14) 17 v_16) 18 v_18) 19 v_20) 20 v_22) 21 v_24) 22 v_26) 23 v_28) 24 v_30) 25 v_32) 26 v_34) 27 v_36) 28 v_38) 6 v_42) h43

def S_precentorref14_Desk_Hear (P : Program) (call : FuncId → List AVal → Heap → Res AVal) (fuel : Nat) (d_a0 client_a1 s_a2 : AVal) (h : Heap) : Res AVal :=
lt (retK P [.tmp 6]) fun k =>
arb (boxR s_a2 h) call fun s_0 h1 =>
arb (.val (.bool false) h1) call fun v_2 h3 =>
lt (sqK (J_precentorref14_Desk_Hear_0 P call fuel k) k) fun k44 =>
arb (.val d_a0 h3) call fun v_45 h46 =>
arb (.val client_a1 h46) call fun v_47 h48 =>
arb (.call F_precentorref14_Desk_Here [v_45, v_47] h48) call fun v_49 h50 =>
arb (.of (aUn P .not v_49) h50) call fun v_51 h52 =>
cb v_51 (
arb (.val (.bool false) h52) call fun v_53 h54 =>
k44 .ret (upd (upd (upd (upd (upd (upd (upd (enterT [d_a0, client_a1, s_a2]) 5 s_0) 6 v_2) 7 v_45) 8 v_47) 9 v_49) 10 v_51) 6 v_53) h54) (
k44 .normal (upd (upd (upd (upd (upd (upd (enterT [d_a0, client_a1, s_a2]) 5 s_0) 6 v_2) 7 v_45) 8 v_47) 9 v_49) 10 v_51) h52)
theorem E_precentorref14_Desk_Hear (call : FuncId → List AVal → Heap → Res AVal) (fuel : Nat) (d_a0 client_a1 s_a2 : AVal) (h : Heap) : bodyR Try.prog call fuel Try.f28 [d_a0, client_a1, s_a2] h = S_precentorref14_Desk_Hear Try.prog call fuel d_a0 client_a1 s_a2 h := by kernel_rfl
theorem R_precentorref14_Desk_Hear {X : XTab} (d_a0 client_a1 s_a2 : AVal) {h : Heap} {Q : AVal → Heap → Prop} (hx : X F_precentorref14_Desk_Hear [d_a0, client_a1, s_a2] = none) (q : Tells (fun m => S_precentorref14_Desk_Hear Try.prog (acallX Try.prog X m) m d_a0 client_a1 s_a2 h) Q) :
    Tells (fun m => acallX Try.prog X m F_precentorref14_Desk_Hear [d_a0, client_a1, s_a2] h) Q :=
  Tells.later (q.le fun m => (E_precentorref14_Desk_Hear (acallX Try.prog X m) m d_a0 client_a1 s_a2 h) ▸ acallX_le Try.func28 hx m h)

/-! ### (*precentor/precentorref14.Desk).Poll -/
def J_precentorref14_Desk_Poll_0 (P : Program) (call : FuncId → List AVal → Heap → Res AVal) (fuel : Nat) (k : Kn (AVal)) (t : T) (h : Heap) : Res (AVal) :=
arb (.val (t 0) h) call fun v_4 h5 =>
arb (.val (t 1) h5) call fun v_6 h7 =>
arb (nckR v_4 h7) call fun v_8 h9 =>
arb (.of (fadR 1 v_8) h9) call fun v_10 h11 =>
arb (.of (ixpR 7 11 v_10 v_6) h11) call fun v_12 h13 =>
arb (.val v_12 h13) call fun x_14 h15 =>
arb (.val x_14 h15) call fun v_16 h17 =>
arb (nckR v_16 h17) call fun v_18 h19 =>
arb (.of (fadR 10 v_18) h19) call fun v_20 h21 =>
arb (.of (ld1 h21 v_20) h21) call fun v_22 h23 =>
arb (.of (aBin P .add 3 (.tmp 38) (.const (.int .i64 1)) v_22 (.int .i64 1)) h23) call fun v_24 h25 =>
arb (nckR v_16 h25) call fun v_26 h27 =>
arb (.of (fadR 10 v_26) h27) call fun v_28 h29 =>
arb (stR 1 h29 v_28 v_24) call fun v_30 h31 =>
obv (.val x_14 h31) fun v_32 =>
obv (nckR v_32 h31) fun v_34 =>
obv (.of (fadR 9 v_34) h31) fun v_36 =>
obv (.of (ld1 h31 v_36) h31) fun v_38 => ifb true <|
obv (.val x_14 h31) fun v_40 =>
obv (nckR v_40 h31) fun v_42 =>
obv (.of (fadR 10 v_42) h31) fun v_44 =>
obv (.of (ld1 h31 v_44) h31) fun v_46 => ifb true <|
obv (.of (aBin P .sub 3 (.tmp 49) (.const (.int .i64 1)) v_46 (.int .i64 1)) h31) fun v_48 =>
obv (.of (ixsR 4 v_38 v_48) h31) fun v_50 =>
obv (.of (ldn 4 h31 v_50) h31) fun v_52 => ifb true <|
arbE (stR 4 h31 (t 4) v_52) call fun v_54 h55 => lt h55 fun g55 => ifb (true && true) <|
obv (.val (.int .i64 0) g55) fun v_56 =>
k .ret (upd (upd (upd (upd (upd (upd (upd (upd (upd (upd (upd (upd (upd (upd (upd (upd (upd (upd (upd (upd (upd (upd (upd (upd (upd t 30 v_4) 31 v_6) 32 v_8) 33 v_10) 34 v_12) 6 x_14) 35 v_16) 36 v_18) 37 v_20) 38 v_22) 39 v_24) 40 v_26) 41 v_28) 42 v_32) 43 v_34) 44 v_36) 45 v_38) 46 v_40) 47 v_42) 48 v_44) 49 v_46) 50 v_48) 51 v_50) 52 v_52) 5 v_56) g55

theorem C_precentorref14_Desk_Poll_0 (h : Heap) (a : AVal) : aLoad Try.prog h 45 a = ldn 4 h a := by kernel_rfl
def S_precentorref14_Desk_Poll (P : Program) (call : FuncId → List AVal → Heap → Res AVal) (fuel : Nat) (d_a0 client_a1 : AVal) (h : Heap) : Res AVal :=
lt (retK P [.cell 4 45, .tmp 5]) fun k =>
arb (newR [(.int .i64 0), (.int .i64 0), (.int .i64 0), .nils] h) call fun v_0 h1 =>
arb (.val (.int .i64 0) h1) call fun v_2 h3 =>
lt (sqK (J_precentorref14_Desk_Poll_0 P call fuel k) k) fun k58 =>
obv (.val d_a0 h3) fun v_59 =>
obv (.val client_a1 h3) fun v_61 =>
arbE (.call F_precentorref14_Desk_Here [v_59, v_61] h3) call fun v_63 h64 => lt h64 fun g64 => ifb (true && true) <|
obv (.of (aUn P .not v_63) g64) fun v_65 =>
obv (.val v_65 g64) fun v_67 =>
gdr (wantB v_67 false) (fun c => obv (.val d_a0 g64) fun v_69 =>
c true v_69 g64) g64 fun w71 v_69 h71 =>
gdr (wantB v_67 false) (fun c => obv (.val client_a1 h71) fun v_72 =>
c true v_72 h71) h71 fun w74 v_72 h74 =>
gdr (wantB v_67 false) (fun c => obv (nckR v_69 h74) fun v_75 =>
c true v_75 h74) h74 fun w77 v_75 h77 =>
gdr (wantB v_67 false) (fun c => obv (.of (fadR 1 v_75) h77) fun v_78 =>
c true v_78 h77) h77 fun w80 v_78 h80 =>
gdr (wantB v_67 false) (fun c => obv (.of (ixpR 7 11 v_78 v_72) h80) fun v_81 =>
c true v_81 h80) h80 fun w83 v_81 h83 =>
gdr (wantB v_67 false) (fun c => obv (.of (fadR 10 v_81) h83) fun v_84 =>
c true v_84 h83) h83 fun w86 v_84 h86 =>
gdr (wantB v_67 false) (fun c => obv (.of (ld1 h86 v_84) h86) fun v_87 => ifb true <|
c true v_87 h86) h86 fun w89 v_87 h89 =>
gdr (wantB v_67 false) (fun c => obv (.val d_a0 h89) fun v_90 =>
c true v_90 h89) h89 fun w92 v_90 h92 =>
gdr (wantB v_67 false) (fun c => obv (.val client_a1 h92) fun v_93 =>
c true v_93 h92) h92 fun w95 v_93 h95 =>
gdr (wantB v_67 false) (fun c => obv (nckR v_90 h95) fun v_96 =>
c true v_96 h95) h95 fun w98 v_96 h98 =>
gdr (wantB v_67 false) (fun c => obv (.of (fadR 1 v_96) h98) fun v_99 =>
c true v_99 h98) h98 fun w101 v_99 h101 =>
gdr (wantB v_67 false) (fun c => obv (.of (ixpR 7 11 v_99 v_93) h101) fun v_102 =>
c true v_102 h101) h101 fun w104 v_102 h104 =>
gdr (wantB v_67 false) (fun c => obv (.of (fadR 9 v_102) h104) fun v_105 =>
c true v_105 h104) h104 fun w107 v_105 h107 =>
gdr (wantB v_67 false) (fun c => obv (.of (ld1 h107 v_105) h107) fun v_108 => ifb true <|
c true v_108 h107) h107 fun w110 v_108 h110 =>
gdr (wantB v_67 false) (fun c => obv (.of (lenL v_108) h110) fun v_111 =>
c true v_111 h110) h110 fun w113 v_111 h113 =>
gdr (wantB v_67 false) (fun c => obv (.of (aBin P .geq 3 (.tmp 18) (.tmp 26) v_87 v_111) h113) fun v_114 =>
c true v_114 h113) h113 fun w116 v_114 h116 =>
obv (pkR v_67 (.bool true) v_114 h116) fun v_117 =>
cb v_117 (
arb (.of (bldR [(.int .i64 0), (.int .i64 0), (.int .i64 0), .nils] []) h116) call fun v_119 h120 =>
arb (stR 4 h120 v_0 v_119) call fun v_121 h122 =>
arb (.val (.int .i64 4) h122) call fun v_123 h124 =>
k58 .ret (upd (upd (upd (upd (upd (upd (upd (upd (upd (upd (upd (upd (upd (upd (upd (upd (upd (upd (upd (upd (upd (upd (upd (upd (upd (upd (enterT [d_a0, client_a1]) 4 v_0) 5 v_2) 7 v_59) 8 v_61) 9 v_63) 10 v_65) 11 v_67) 12 v_69) 13 v_72) 14 v_75) 15 v_78) 16 v_81) 17 v_84) 18 v_87) 19 v_90) 20 v_93) 21 v_96) 22 v_99) 23 v_102) 24 v_105) 25 v_108) 26 v_111) 27 v_114) 28 v_117) 29 v_119) 5 v_123) h124) (
k58 .normal (upd (upd (upd (upd (upd (upd (upd (upd (upd (upd (upd (upd (upd (upd (upd (upd (upd (upd (upd (upd (upd (upd (upd (upd (enterT [d_a0, client_a1]) 4 v_0) 5 v_2) 7 v_59) 8 v_61) 9 v_63) 10 v_65) 11 v_67) 12 v_69) 13 v_72) 14 v_75) 15 v_78) 16 v_81) 17 v_84) 18 v_87) 19 v_90) 20 v_93) 21 v_96) 22 v_99) 23 v_102) 24 v_105) 25 v_108) 26 v_111) 27 v_114) 28 v_117) h116)
theorem E_precentorref14_Desk_Poll (call : FuncId → List AVal → Heap → Res AVal) (fuel : Nat) (d_a0 client_a1 : AVal) (h : Heap) : bodyR Try.prog call fuel Try.f29 [d_a0, client_a1] h = S_precentorref14_Desk_Poll Try.prog call fuel d_a0 client_a1 h := by kernel_rfl
theorem R_precentorref14_Desk_Poll {X : XTab} (d_a0 client_a1 : AVal) {h : Heap} {Q : AVal → Heap → Prop} (hx : X F_precentorref14_Desk_Poll [d_a0, client_a1] = none) (q : Tells (fun m => S_precentorref14_Desk_Poll Try.prog (acallX Try.prog X m) m d_a0 client_a1 h) Q) :
    Tells (fun m => acallX Try.prog X m F_precentorref14_Desk_Poll [d_a0, client_a1] h) Q :=
  Tells.later (q.le fun m => (E_precentorref14_Desk_Poll (acallX Try.prog X m) m d_a0 client_a1 h) ▸ acallX_le Try.func29 hx m h)

/-! ### (*precentor/precentorref14.Desk).Busy -/
def J_precentorref14_Desk_Busy_0 (P : Program) (call : FuncId → List AVal → Heap → Res AVal) (fuel : Nat) (k : Kn (AVal)) (t : T) (h : Heap) : Res (AVal) :=
arb (.val (t 3) h) call fun v_4 h5 =>
arb (.val v_4 h5) call fun v_6 h7 =>
k .ret (upd (upd t 27 v_4) 2 v_6) h7

def J_precentorref14_Desk_Busy_3 (P : Program) (call : FuncId → List AVal → Heap → Res AVal) (fuel : Nat) (k : Kn (Ex × T)) (t : T) (h : Heap) : Res (Ex × T) :=
arb (.val (t 4) h) call fun v_12 h13 =>
arb (.of (aBin P .add 3 (.tmp 7) (.const (.int .i64 1)) v_12 (.int .i64 1)) h13) call fun v_14 h15 =>
arb (.val v_14 h15) call fun c_16 h17 =>
k .normal (upd (upd (upd t 7 v_12) 8 v_14) 4 c_16) h17

def J_precentorref14_Desk_Busy_2 (P : Program) (call : FuncId → List AVal → Heap → Res AVal) (fuel : Nat) (k : Kn (Ex × T)) (t : T) (h : Heap) : Res (Ex × T) :=
lt (sqK (J_precentorref14_Desk_Busy_3 P call fuel k) k) fun k18 =>
lt (blkK 1 k18) fun k19 =>
arb (.val (t 0) h) call fun v_20 h21 =>
arb (.val (t 4) h21) call fun v_22 h23 =>
arb (nckR v_20 h23) call fun v_24 h25 =>
arb (.of (fadR 1 v_24) h25) call fun v_26 h27 =>
arb (.of (ixpR 7 11 v_26 v_22) h27) call fun v_28 h29 =>
arb (.of (fadR 0 v_28) h29) call fun v_30 h31 =>
arb (.of (ld1 h31 v_30) h31) call fun v_32 h33 =>
arb (.val v_32 h33) call fun v_34 h35 =>
gd (wantB v_34 true) (fun c => arb (.val (t 0) h35) call c) h35 fun v_36 h37 =>
gd (wantB v_34 true) (fun c => arb (.val (t 4) h37) call c) h37 fun v_38 h39 =>
gd (wantB v_34 true) (fun c => arb (nckR v_36 h39) call c) h39 fun v_40 h41 =>
gd (wantB v_34 true) (fun c => arb (.of (fadR 1 v_40) h41) call c) h41 fun v_42 h43 =>
gd (wantB v_34 true) (fun c => arb (.of (ixpR 7 11 v_42 v_38) h43) call c) h43 fun v_44 h45 =>
gd (wantB v_34 true) (fun c => arb (.of (fadR 7 v_44) h45) call c) h45 fun v_46 h47 =>
gd (wantB v_34 true) (fun c => arb (.of (ld1 h47 v_46) h47) call c) h47 fun v_48 h49 =>
arb (pkR v_34 v_48 (.bool false) h49) call fun v_50 h51 =>
cb v_50 (
arb (.val (t 3) h51) call fun v_52 h53 =>
arb (.of (aBin P .add 3 (.tmp 25) (.const (.int .i64 1)) v_52 (.int .i64 1)) h53) call fun v_54 h55 =>
arb (.val v_54 h55) call fun n_56 h57 =>
k19 .normal (upd (upd (upd (upd (upd (upd (upd (upd (upd (upd (upd (upd (upd (upd (upd (upd (upd (upd (upd t 9 v_20) 10 v_22) 11 v_24) 12 v_26) 13 v_28) 14 v_30) 15 v_32) 16 v_34) 17 v_36) 18 v_38) 19 v_40) 20 v_42) 21 v_44) 22 v_46) 23 v_48) 24 v_50) 25 v_52) 26 v_54) 3 n_56) h57) (
k19 .normal (upd (upd (upd (upd (upd (upd (upd (upd (upd (upd (upd (upd (upd (upd (upd (upd t 9 v_20) 10 v_22) 11 v_24) 12 v_26) 13 v_28) 14 v_30) 15 v_32) 16 v_34) 17 v_36) 18 v_38) 19 v_40) 20 v_42) 21 v_44) 22 v_46) 23 v_48) 24 v_50) h51)

def L_precentorref14_Desk_Busy_1 (P : Program) (call : FuncId → List AVal → Heap → Res AVal) (fuel : Nat) (t : T) (h : Heap) : Res (Ex × T) :=
lt okK fun k =>
lt (sqK (J_precentorref14_Desk_Busy_2 P call fuel k) k) fun k58 =>
arb (.val (t 4) h) call fun v_59 h60 =>
arb (.of (aBin P .leq 3 (.tmp 5) (.const (.int .i64 6)) v_59 (.int .i64 6)) h60) call fun v_61 h62 =>
cb v_61 (
k58 .normal (upd (upd t 5 v_59) 6 v_61) h62) (
k58 (.exit 0) (upd (upd t 5 v_59) 6 v_61) h62)

def S_precentorref14_Desk_Busy (P : Program) (call : FuncId → List AVal → Heap → Res AVal) (fuel : Nat) (d_a0 : AVal) (h : Heap) : Res AVal :=
lt (retK P [.tmp 2]) fun k =>
arb (.val (.int .i64 0) h) call fun v_0 h1 =>
arb (.val (.int .i64 0) h1) call fun n_2 h3 =>
lt (sqK (J_precentorref14_Desk_Busy_0 P call fuel k) k) fun k8 =>
arb (.val (.int .i64 1) h3) call fun c_9 h10 =>
lt (blkK 0 k8) fun k11 =>
(loopN (L_precentorref14_Desk_Busy_1 P call fuel) fuel (upd (upd (upd (enterT [d_a0]) 2 v_0) 3 n_2) 4 c_9) h10).bind (lpK k11)
theorem E_precentorref14_Desk_Busy (call : FuncId → List AVal → Heap → Res AVal) (fuel : Nat) (d_a0 : AVal) (h : Heap) : bodyR Try.prog call fuel Try.f31 [d_a0] h = S_precentorref14_Desk_Busy Try.prog call fuel d_a0 h := by kernel_rfl
theorem R_precentorref14_Desk_Busy {X : XTab} (d_a0 : AVal) {h : Heap} {Q : AVal → Heap → Prop} (hx : X F_precentorref14_Desk_Busy [d_a0] = none) (q : Tells (fun m => S_precentorref14_Desk_Busy Try.prog (acallX Try.prog X m) m d_a0 h) Q) :
    Tells (fun m => acallX Try.prog X m F_precentorref14_Desk_Busy [d_a0] h) Q :=
  Tells.later (q.le fun m => (E_precentorref14_Desk_Busy (acallX Try.prog X m) m d_a0 h) ▸ acallX_le Try.func31 hx m h)

/-! ### (*precentor/precentorref14.Desk).Here -/

def S_precentorref14_Desk_Here (P : Program) (call : FuncId → List AVal → Heap → Res AVal) (fuel : Nat) (d_a0 client_a1 : AVal) (h : Heap) : Res AVal :=
lt (retK P [.tmp 4]) fun k =>
arb (.val (.bool false) h) call fun v_0 h1 =>
arb (.val client_a1 h1) call fun v_2 h3 =>
arb (.of (aBin P .geq 3 (.tmp 5) (.const (.int .i64 1)) v_2 (.int .i64 1)) h3) call fun v_4 h5 =>
arb (.val v_4 h5) call fun v_6 h7 =>
gd (wantB v_6 true) (fun c => arb (.val client_a1 h7) call c) h7 fun v_8 h9 =>
gd (wantB v_6 true) (fun c => arb (.of (aBin P .leq 3 (.tmp 8) (.const (.int .i64 6)) v_8 (.int .i64 6)) h9) call c) h9 fun v_10 h11 =>
arb (pkR v_6 v_10 (.bool false) h11) call fun v_12 h13 =>
arb (.val v_12 h13) call fun v_14 h15 =>
gd (wantB v_14 true) (fun c => arb (.val d_a0 h15) call c) h15 fun v_16 h17 =>
gd (wantB v_14 true) (fun c => arb (.val client_a1 h17) call c) h17 fun v_18 h19 =>
gd (wantB v_14 true) (fun c => arb (nckR v_16 h19) call c) h19 fun v_20 h21 =>
gd (wantB v_14 true) (fun c => arb (.of (fadR 1 v_20) h21) call c) h21 fun v_22 h23 =>
gd (wantB v_14 true) (fun c => arb (.of (ixpR 7 11 v_22 v_18) h23) call c) h23 fun v_24 h25 =>
gd (wantB v_14 true) (fun c => arb (.of (fadR 0 v_24) h25) call c) h25 fun v_26 h27 =>
gd (wantB v_14 true) (fun c => arb (.of (ld1 h27 v_26) h27) call c) h27 fun v_28 h29 =>
arb (pkR v_14 v_28 (.bool false) h29) call fun v_30 h31 =>
arb (.val v_30 h31) call fun v_32 h33 =>
k .ret (upd (upd (upd (upd (upd (upd (upd (upd (upd (upd (upd (upd (upd (upd (upd (upd (upd (enterT [d_a0, client_a1]) 4 v_0) 5 v_2) 6 v_4) 7 v_6) 8 v_8) 9 v_10) 10 v_12) 11 v_14) 12 v_16) 13 v_18) 14 v_20) 15 v_22) 16 v_24) 17 v_26) 18 v_28) 19 v_30) 4 v_32) h33
theorem E_precentorref14_Desk_Here (call : FuncId → List AVal → Heap → Res AVal) (fuel : Nat) (d_a0 client_a1 : AVal) (h : Heap) : bodyR Try.prog call fuel Try.f32 [d_a0, client_a1] h = S_precentorref14_Desk_Here Try.prog call fuel d_a0 client_a1 h := by kernel_rfl
theorem R_precentorref14_Desk_Here {X : XTab} (d_a0 client_a1 : AVal) {h : Heap} {Q : AVal → Heap → Prop} (hx : X F_precentorref14_Desk_Here [d_a0, client_a1] = none) (q : Tells (fun m => S_precentorref14_Desk_Here Try.prog (acallX Try.prog X m) m d_a0 client_a1 h) Q) :
    Tells (fun m => acallX Try.prog X m F_precentorref14_Desk_Here [d_a0, client_a1] h) Q :=
  Tells.later (q.le fun m => (E_precentorref14_Desk_Here (acallX Try.prog X m) m d_a0 client_a1 h) ▸ acallX_le Try.func32 hx m h)


end Go.Proofs.Ytbolfamaffbnnaa
