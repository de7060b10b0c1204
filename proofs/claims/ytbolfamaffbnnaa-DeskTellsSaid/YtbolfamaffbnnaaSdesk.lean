/-
  Functions of desk in the form of YtbolfamaffbnnaaABS (printed by a program of ours, gen.lean).
-/
import Derived.Test.YtbolfamaffbnnaaSIds
set_option linter.unusedVariables false
namespace Go.Proofs.Ytbolfamaffbnnaa
open Go.Ab
/-! ### precentor/desk.New -/

def S_desk_New (P : Program) (call : FuncId → List AVal → Heap → Res AVal) (fuel : Nat) (broker_a0 : AVal) (h : Heap) : Res AVal :=
lt (retK P [.tmp 2]) fun k =>
arb (.val .nilp h) call fun v_0 h1 =>
arb (.val broker_a0 h1) call fun v_2 h3 =>
arb (.of (bldR [(.int .i64 0), (.bool false), .nils, (.int .i64 0), (.bool false), (.bool false), (.int .i64 0), .nils, (.int .i64 0), (.bool false), .nils, (.int .i64 0), (.bool false), (.bool false), (.int .i64 0), .nils, (.int .i64 0), (.bool false), .nils, (.int .i64 0), (.bool false), (.bool false), (.int .i64 0), .nils, (.int .i64 0), (.bool false), .nils, (.int .i64 0), (.bool false), (.bool false), (.int .i64 0), .nils, (.int .i64 0), (.bool false), .nils, (.int .i64 0), (.bool false), (.bool false), (.int .i64 0), .nils, (.int .i64 0), (.bool false), .nils, (.int .i64 0), (.bool false), (.bool false), (.int .i64 0), .nils, (.int .i64 0), (.bool false), .nils, (.int .i64 0), (.bool false), (.bool false), (.int .i64 0), .nils, (.int .i64 0)] [(0, 1, v_2)]) h3) call fun v_4 h5 =>
arb (boxR v_4 h5) call fun v_6 h7 =>
arb (.val v_6 h7) call fun v_8 h9 =>
k .ret (upd (upd (upd (upd (upd (enterT [broker_a0]) 2 v_0) 3 v_2) 4 v_4) 5 v_6) 2 v_8) h9
theorem E_desk_New (call : FuncId → List AVal → Heap → Res AVal) (fuel : Nat) (broker_a0 : AVal) (h : Heap) : bodyR Try.prog call fuel Try.f7 [broker_a0] h = S_desk_New Try.prog call fuel broker_a0 h := by kernel_rfl
theorem R_desk_New {X : XTab} (broker_a0 : AVal) {h : Heap} {Q : AVal → Heap → Prop} (hx : X F_desk_New [broker_a0] = none) (q : Tells (fun m => S_desk_New Try.prog (acallX Try.prog X m) m broker_a0 h) Q) :
    Tells (fun m => acallX Try.prog X m F_desk_New [broker_a0] h) Q :=
  Tells.later (q.le fun m => (E_desk_New (acallX Try.prog X m) m broker_a0 h) ▸ acallX_le Try.func7 hx m h)

/-! ### (*precentor/desk.Desk).Attach -/
def J_desk_Desk_Attach_1 (P : Program) (call : FuncId → List AVal → Heap → Res AVal) (fuel : Nat) (k : Kn (AVal)) (t : T) (h : Heap) : Res (AVal) :=
arb (.val (t 0) h) call fun v_2 h3 =>
arb (.val (t 1) h3) call fun v_4 h5 =>
arb (nckR v_2 h5) call fun v_6 h7 =>
arb (.of (fadR 1 v_6) h7) call fun v_8 h9 =>
arb (.of (ixpR 7 8 v_8 v_4) h9) call fun v_10 h11 =>
arb (.of (fadR 0 v_10) h11) call fun v_12 h13 =>
arb (stR 1 h13 v_12 (.bool true)) call fun v_14 h15 =>
arb (.val (.int .i64 0) h15) call fun v_16 h17 =>
k .ret (upd (upd (upd (upd (upd (upd (upd t 18 v_2) 19 v_4) 20 v_6) 21 v_8) 22 v_10) 23 v_12) 4 v_16) h17

def J_desk_Desk_Attach_0 (P : Program) (call : FuncId → List AVal → Heap → Res AVal) (fuel : Nat) (k : Kn (AVal)) (t : T) (h : Heap) : Res (AVal) :=
lt (sqK (J_desk_Desk_Attach_1 P call fuel k) k) fun k18 =>
arb (.val (t 0) h) call fun v_19 h20 =>
arb (.val (t 1) h20) call fun v_21 h22 =>
arb (nckR v_19 h22) call fun v_23 h24 =>
arb (.of (fadR 1 v_23) h24) call fun v_25 h26 =>
arb (.of (ixpR 7 8 v_25 v_21) h26) call fun v_27 h28 =>
arb (.of (fadR 0 v_27) h28) call fun v_29 h30 =>
arb (.of (ld1 h30 v_29) h30) call fun v_31 h32 =>
cb v_31 (
arb (.val (.int .i64 5) h32) call fun v_33 h34 =>
k18 .ret (upd (upd (upd (upd (upd (upd (upd (upd t 11 v_19) 12 v_21) 13 v_23) 14 v_25) 15 v_27) 16 v_29) 17 v_31) 4 v_33) h34) (
k18 .normal (upd (upd (upd (upd (upd (upd (upd t 11 v_19) 12 v_21) 13 v_23) 14 v_25) 15 v_27) 16 v_29) 17 v_31) h32)

def S_desk_Desk_Attach (P : Program) (call : FuncId → List AVal → Heap → Res AVal) (fuel : Nat) (d_a0 client_a1 : AVal) (h : Heap) : Res AVal :=
lt (retK P [.tmp 4]) fun k =>
arb (.val (.int .i64 0) h) call fun v_0 h1 =>
lt (sqK (J_desk_Desk_Attach_0 P call fuel k) k) fun k35 =>
arb (.val client_a1 h1) call fun v_36 h37 =>
arb (.of (aBin P .lss 3 (.tmp 5) (.const (.int .i64 1)) v_36 (.int .i64 1)) h37) call fun v_38 h39 =>
arb (.val v_38 h39) call fun v_40 h41 =>
gd (wantB v_40 false) (fun c => arb (.val client_a1 h41) call c) h41 fun v_42 h43 =>
gd (wantB v_40 false) (fun c => arb (.of (aBin P .gtr 3 (.tmp 8) (.const (.int .i64 6)) v_42 (.int .i64 6)) h43) call c) h43 fun v_44 h45 =>
arb (pkR v_40 (.bool true) v_44 h45) call fun v_46 h47 =>
cb v_46 (
arb (.val (.int .i64 1) h47) call fun v_48 h49 =>
k35 .ret (upd (upd (upd (upd (upd (upd (upd (upd (enterT [d_a0, client_a1]) 4 v_0) 5 v_36) 6 v_38) 7 v_40) 8 v_42) 9 v_44) 10 v_46) 4 v_48) h49) (
k35 .normal (upd (upd (upd (upd (upd (upd (upd (enterT [d_a0, client_a1]) 4 v_0) 5 v_36) 6 v_38) 7 v_40) 8 v_42) 9 v_44) 10 v_46) h47)
theorem E_desk_Desk_Attach (call : FuncId → List AVal → Heap → Res AVal) (fuel : Nat) (d_a0 client_a1 : AVal) (h : Heap) : bodyR Try.prog call fuel Try.f8 [d_a0, client_a1] h = S_desk_Desk_Attach Try.prog call fuel d_a0 client_a1 h := by kernel_rfl
theorem R_desk_Desk_Attach {X : XTab} (d_a0 client_a1 : AVal) {h : Heap} {Q : AVal → Heap → Prop} (hx : X F_desk_Desk_Attach [d_a0, client_a1] = none) (q : Tells (fun m => S_desk_Desk_Attach Try.prog (acallX Try.prog X m) m d_a0 client_a1 h) Q) :
    Tells (fun m => acallX Try.prog X m F_desk_Desk_Attach [d_a0, client_a1] h) Q :=
  Tells.later (q.le fun m => (E_desk_Desk_Attach (acallX Try.prog X m) m d_a0 client_a1 h) ▸ acallX_le Try.func8 hx m h)

/-! ### (*precentor/desk.Desk).Subscribe -/
def J_desk_Desk_Subscribe_0 (P : Program) (call : FuncId → List AVal → Heap → Res AVal) (fuel : Nat) (k : Kn (AVal)) (t : T) (h : Heap) : Res (AVal) :=
arb (.val (t 8) h) call fun v_12 h13 =>
arb (nckR v_12 h13) call fun v_14 h15 =>
arb (.of (fadR 2 v_14) h15) call fun v_16 h17 =>
arb (.of (ld1 h17 v_16) h17) call fun v_18 h19 =>
arb (.of (aBin P .add 3 (.tmp 45) (.const (.int .i64 1)) v_18 (.int .i64 1)) h19) call fun v_20 h21 =>
arb (nckR v_12 h21) call fun v_22 h23 =>
arb (.of (fadR 2 v_22) h23) call fun v_24 h25 =>
arb (stR 1 h25 v_24 v_20) call fun v_26 h27 =>
arb (.val (t 8) h27) call fun v_28 h29 =>
arb (.val (t 8) h29) call fun v_30 h31 =>
arb (.val (t 8) h31) call fun v_32 h33 =>
arb (.val (t 8) h33) call fun v_34 h35 =>
arb (nckR v_34 h35) call fun v_36 h37 =>
arb (.of (fadR 2 v_36) h37) call fun v_38 h39 =>
arb (.of (ld1 h39 v_38) h39) call fun v_40 h41 =>
arb (nckR v_28 h41) call fun v_42 h43 =>
arb (.of (fadR 3 v_42) h43) call fun v_44 h45 =>
arb (stR 1 h45 v_44 (.bool true)) call fun v_46 h47 =>
arb (nckR v_30 h47) call fun v_48 h49 =>
arb (.of (fadR 4 v_48) h49) call fun v_50 h51 =>
arb (stR 1 h51 v_50 (.bool false)) call fun v_52 h53 =>
arb (nckR v_32 h53) call fun v_54 h55 =>
arb (.of (fadR 5 v_54) h55) call fun v_56 h57 =>
arb (stR 1 h57 v_56 v_40) call fun v_58 h59 =>
obv (.val (t 1) h59) fun v_60 =>
obv (.val (t 0) h59) fun v_62 =>
obv (nckR v_62 h59) fun v_64 =>
obv (.of (fadR 0 v_64) h59) fun v_66 =>
obv (.of (ld1 h59 v_66) h59) fun v_68 => ifb true <|
obv (.val (t 8) h59) fun v_70 =>
obv (nckR v_70 h59) fun v_72 =>
obv (.of (fadR 2 v_72) h59) fun v_74 =>
obv (.of (ld1 h59 v_74) h59) fun v_76 => ifb true <|
obv (.val (t 2) h59) fun v_78 =>
arbE (.call F_filter_Copy [v_78] h59) call fun v_80 h81 => lt h81 fun g81 => ifb (true && (isV v_76 (arVal (.of (ld1 g81 v_74) g81)) && (isV v_68 (arVal (.of (ld1 g81 v_66) g81)) && true))) <|
obv (.of (bldR [(.int .i64 0), (.int .i64 0), (.int .i64 0), .nils] [(0, 1, v_60), (1, 1, v_68), (2, 1, v_76), (3, 1, v_80)]) g81) fun v_82 =>
obv (.of (bldR [(.bool false), (.int .i64 0), (.int .i64 0), (.int .i64 0), .nils] [(1, 4, v_82)]) g81) fun v_84 =>
arbE (stR 5 g81 (t 6) v_84) call fun v_86 h87 => lt h87 fun g87 => ifb (true && true) <|
obv (.val (.int .i64 0) g87) fun v_88 =>
k .ret (upd (upd (upd (upd (upd (upd (upd (upd (upd (upd (upd (upd (upd (upd (upd (upd (upd (upd (upd (upd (upd (upd (upd (upd (upd (upd (upd (upd (upd (upd (upd (upd (upd (upd t 42 v_12) 43 v_14) 44 v_16) 45 v_18) 46 v_20) 47 v_22) 48 v_24) 49 v_28) 50 v_30) 51 v_32) 52 v_34) 53 v_36) 54 v_38) 55 v_40) 56 v_42) 57 v_44) 58 v_48) 59 v_50) 60 v_54) 61 v_56) 62 v_60) 63 v_62) 64 v_64) 65 v_66) 66 v_68) 67 v_70) 68 v_72) 69 v_74) 70 v_76) 71 v_78) 72 v_80) 73 v_82) 74 v_84) 7 v_88) g87

theorem C_desk_Desk_Subscribe_0 (h : Heap) (a : AVal) : aLoad Try.prog h 30 a = ldn 5 h a := by kernel_rfl
def S_desk_Desk_Subscribe (P : Program) (call : FuncId → List AVal → Heap → Res AVal) (fuel : Nat) (d_a0 client_a1 f_a2 : AVal) (h : Heap) : Res AVal :=
lt (retK P [.cell 6 30, .tmp 7]) fun k =>
arb (newR [(.bool false), (.int .i64 0), (.int .i64 0), (.int .i64 0), .nils] h) call fun v_0 h1 =>
arb (.val (.int .i64 0) h1) call fun v_2 h3 =>
arb (.val d_a0 h3) call fun v_4 h5 =>
arb (.val client_a1 h5) call fun v_6 h7 =>
arb (.call F_desk_Desk_seat [v_4, v_6] h7) call fun v_8 h9 =>
arb (.val v_8 h9) call fun s_10 h11 =>
lt (sqK (J_desk_Desk_Subscribe_0 P call fuel k) k) fun k90 =>
lt (blkK 0 k90) fun k91 =>
arb (.val s_10 h11) call fun v_92 h93 =>
arb (.of (aBin P .eql 79 (.tmp 13) (.const (.pointer none)) v_92 .nilp) h93) call fun v_94 h95 =>
arb (.val v_94 h95) call fun v_96 h97 =>
cb v_96 (
arb (.of (bldR [(.bool false), (.int .i64 0), (.int .i64 0), (.int .i64 0), .nils] []) h97) call fun v_98 h99 =>
arb (stR 5 h99 v_0 v_98) call fun v_100 h101 =>
arb (.val (.int .i64 4) h101) call fun v_102 h103 =>
k91 .ret (upd (upd (upd (upd (upd (upd (upd (upd (upd (upd (upd (enterT [d_a0, client_a1, f_a2]) 6 v_0) 7 v_2) 9 v_4) 10 v_6) 11 v_8) 8 s_10) 13 v_92) 14 v_94) 12 v_96) 15 v_98) 7 v_102) h103) (
arb (.val f_a2 h97) call fun v_104 h105 =>
arb (.call F_filter_Right [v_104] h105) call fun v_106 h107 =>
arb (.of (aUn P .not v_106) h107) call fun v_108 h109 =>
arb (.val v_108 h109) call fun v_110 h111 =>
cb v_110 (
arb (.of (bldR [(.bool false), (.int .i64 0), (.int .i64 0), (.int .i64 0), .nils] []) h111) call fun v_112 h113 =>
arb (stR 5 h113 v_0 v_112) call fun v_114 h115 =>
arb (.val (.int .i64 3) h115) call fun v_116 h117 =>
k91 .ret (upd (upd (upd (upd (upd (upd (upd (upd (upd (upd (upd (upd (upd (upd (upd (enterT [d_a0, client_a1, f_a2]) 6 v_0) 7 v_2) 9 v_4) 10 v_6) 11 v_8) 8 s_10) 13 v_92) 14 v_94) 12 v_96) 17 v_104) 18 v_106) 19 v_108) 16 v_110) 20 v_112) 7 v_116) h117) (
arb (.val s_10 h111) call fun v_118 h119 =>
arb (nckR v_118 h119) call fun v_120 h121 =>
arb (.of (fadR 3 v_120) h121) call fun v_122 h123 =>
arb (.of (ld1 h123 v_122) h123) call fun v_124 h125 =>
arb (.val v_124 h125) call fun v_126 h127 =>
cb v_126 (
arb (.of (bldR [(.bool false), (.int .i64 0), (.int .i64 0), (.int .i64 0), .nils] []) h127) call fun v_128 h129 =>
arb (stR 5 h129 v_0 v_128) call fun v_130 h131 =>
arb (.val (.int .i64 7) h131) call fun v_132 h133 =>
k91 .ret (upd (upd (upd (upd (upd (upd (upd (upd (upd (upd (upd (upd (upd (upd (upd (upd (upd (upd (upd (upd (enterT [d_a0, client_a1, f_a2]) 6 v_0) 7 v_2) 9 v_4) 10 v_6) 11 v_8) 8 s_10) 13 v_92) 14 v_94) 12 v_96) 17 v_104) 18 v_106) 19 v_108) 16 v_110) 22 v_118) 23 v_120) 24 v_122) 25 v_124) 21 v_126) 26 v_128) 7 v_132) h133) (
arb (.val s_10 h127) call fun v_134 h135 =>
arb (nckR v_134 h135) call fun v_136 h137 =>
arb (.of (fadR 1 v_136) h137) call fun v_138 h139 =>
arb (.of (ld1 h139 v_138) h139) call fun v_140 h141 =>
arb (.of (lenL v_140) h141) call fun v_142 h143 =>
arb (.of (aBin P .geq 3 (.tmp 32) (.const (.int .i64 3)) v_142 (.int .i64 3)) h143) call fun v_144 h145 =>
arb (.val v_144 h145) call fun v_146 h147 =>
cb v_146 (
arb (.of (bldR [(.bool false), (.int .i64 0), (.int .i64 0), (.int .i64 0), .nils] []) h147) call fun v_148 h149 =>
arb (stR 5 h149 v_0 v_148) call fun v_150 h151 =>
arb (.val (.int .i64 6) h151) call fun v_152 h153 =>
k91 .ret (upd (upd (upd (upd (upd (upd (upd (upd (upd (upd (upd (upd (upd (upd (upd (upd (upd (upd (upd (upd (upd (upd (upd (upd (upd (upd (upd (enterT [d_a0, client_a1, f_a2]) 6 v_0) 7 v_2) 9 v_4) 10 v_6) 11 v_8) 8 s_10) 13 v_92) 14 v_94) 12 v_96) 17 v_104) 18 v_106) 19 v_108) 16 v_110) 22 v_118) 23 v_120) 24 v_122) 25 v_124) 21 v_126) 28 v_134) 29 v_136) 30 v_138) 31 v_140) 32 v_142) 33 v_144) 27 v_146) 34 v_148) 7 v_152) h153) (
arb (.val s_10 h147) call fun v_154 h155 =>
arb (nckR v_154 h155) call fun v_156 h157 =>
arb (.of (fadR 2 v_156) h157) call fun v_158 h159 =>
arb (.of (ld1 h159 v_158) h159) call fun v_160 h161 =>
arb (.of (aBin P .geq 3 (.tmp 39) (.const (.int .i64 4611686018427387904)) v_160 (.int .i64 4611686018427387904)) h161) call fun v_162 h163 =>
arb (.val v_162 h163) call fun v_164 h165 =>
cb v_164 (
arb (.of (bldR [(.bool false), (.int .i64 0), (.int .i64 0), (.int .i64 0), .nils] []) h165) call fun v_166 h167 =>
arb (stR 5 h167 v_0 v_166) call fun v_168 h169 =>
arb (.val (.int .i64 8) h169) call fun v_170 h171 =>
k91 .ret (upd (upd (upd (upd (upd (upd (upd (upd (upd (upd (upd (upd (upd (upd (upd (upd (upd (upd (upd (upd (upd (upd (upd (upd (upd (upd (upd (upd (upd (upd (upd (upd (upd (enterT [d_a0, client_a1, f_a2]) 6 v_0) 7 v_2) 9 v_4) 10 v_6) 11 v_8) 8 s_10) 13 v_92) 14 v_94) 12 v_96) 17 v_104) 18 v_106) 19 v_108) 16 v_110) 22 v_118) 23 v_120) 24 v_122) 25 v_124) 21 v_126) 28 v_134) 29 v_136) 30 v_138) 31 v_140) 32 v_142) 33 v_144) 27 v_146) 36 v_154) 37 v_156) 38 v_158) 39 v_160) 40 v_162) 35 v_164) 41 v_166) 7 v_170) h171) (
k91 .normal (upd (upd (upd (upd (upd (upd (upd (upd (upd (upd (upd (upd (upd (upd (upd (upd (upd (upd (upd (upd (upd (upd (upd (upd (upd (upd (upd (upd (upd (upd (upd (enterT [d_a0, client_a1, f_a2]) 6 v_0) 7 v_2) 9 v_4) 10 v_6) 11 v_8) 8 s_10) 13 v_92) 14 v_94) 12 v_96) 17 v_104) 18 v_106) 19 v_108) 16 v_110) 22 v_118) 23 v_120) 24 v_122) 25 v_124) 21 v_126) 28 v_134) 29 v_136) 30 v_138) 31 v_140) 32 v_142) 33 v_144) 27 v_146) 36 v_154) 37 v_156) 38 v_158) 39 v_160) 40 v_162) 35 v_164) h165)))))
theorem E_desk_Desk_Subscribe (call : FuncId → List AVal → Heap → Res AVal) (fuel : Nat) (d_a0 client_a1 f_a2 : AVal) (h : Heap) : bodyR Try.prog call fuel Try.f9 [d_a0, client_a1, f_a2] h = S_desk_Desk_Subscribe Try.prog call fuel d_a0 client_a1 f_a2 h := by kernel_rfl
theorem R_desk_Desk_Subscribe {X : XTab} (d_a0 client_a1 f_a2 : AVal) {h : Heap} {Q : AVal → Heap → Prop} (hx : X F_desk_Desk_Subscribe [d_a0, client_a1, f_a2] = none) (q : Tells (fun m => S_desk_Desk_Subscribe Try.prog (acallX Try.prog X m) m d_a0 client_a1 f_a2 h) Q) :
    Tells (fun m => acallX Try.prog X m F_desk_Desk_Subscribe [d_a0, client_a1, f_a2] h) Q :=
  Tells.later (q.le fun m => (E_desk_Desk_Subscribe (acallX Try.prog X m) m d_a0 client_a1 f_a2 h) ▸ acallX_le Try.func9 hx m h)

/-! ### (*precentor/desk.Desk).Busy -/
def J_desk_Desk_Busy_0 (P : Program) (call : FuncId → List AVal → Heap → Res AVal) (fuel : Nat) (k : Kn (AVal)) (t : T) (h : Heap) : Res (AVal) :=
arb (.val (t 3) h) call fun v_4 h5 =>
arb (.val v_4 h5) call fun v_6 h7 =>
k .ret (upd (upd t 23 v_4) 2 v_6) h7

def J_desk_Desk_Busy_3 (P : Program) (call : FuncId → List AVal → Heap → Res AVal) (fuel : Nat) (k : Kn (Ex × T)) (t : T) (h : Heap) : Res (Ex × T) :=
arb (.of (aBin P .add 3 (.tmp 6) (.const (.int .i64 1)) (t 6) (.int .i64 1)) h) call fun v_14 h15 =>
arb (.val v_14 h15) call fun v_16 h17 =>
k .normal (upd (upd t 22 v_14) 6 v_16) h17

def J_desk_Desk_Busy_2 (P : Program) (call : FuncId → List AVal → Heap → Res AVal) (fuel : Nat) (k : Kn (Ex × T)) (t : T) (h : Heap) : Res (Ex × T) :=
lt (sqK (J_desk_Desk_Busy_3 P call fuel k) k) fun k18 =>
lt (blkK 1 k18) fun k19 =>
arb (.val (t 6) h) call fun v_20 h21 =>
arb (.val v_20 h21) call fun c_22 h23 =>
arb (.val (t 0) h23) call fun v_24 h25 =>
arb (.val c_22 h25) call fun v_26 h27 =>
arb (.call F_desk_Desk_seat [v_24, v_26] h27) call fun v_28 h29 =>
arb (.val v_28 h29) call fun s_30 h31 =>
arb (.val s_30 h31) call fun v_32 h33 =>
arb (.of (aBin P .neq 79 (.tmp 12) (.const (.pointer none)) v_32 .nilp) h33) call fun v_34 h35 =>
arb (.val v_34 h35) call fun v_36 h37 =>
gd (wantB v_36 true) (fun c => arb (.val s_30 h37) call c) h37 fun v_38 h39 =>
gd (wantB v_36 true) (fun c => arb (nckR v_38 h39) call c) h39 fun v_40 h41 =>
gd (wantB v_36 true) (fun c => arb (.of (fadR 3 v_40) h41) call c) h41 fun v_42 h43 =>
gd (wantB v_36 true) (fun c => arb (.of (ld1 h43 v_42) h43) call c) h43 fun v_44 h45 =>
arb (pkR v_36 v_44 (.bool false) h45) call fun v_46 h47 =>
cb v_46 (
arb (.val (t 3) h47) call fun v_48 h49 =>
arb (.of (aBin P .add 3 (.tmp 20) (.const (.int .i64 1)) v_48 (.int .i64 1)) h49) call fun v_50 h51 =>
arb (.val v_50 h51) call fun n_52 h53 =>
k19 .normal (upd (upd (upd (upd (upd (upd (upd (upd (upd (upd (upd (upd (upd (upd (upd (upd (upd t 8 v_20) 4 c_22) 9 v_24) 10 v_26) 11 v_28) 5 s_30) 12 v_32) 13 v_34) 14 v_36) 15 v_38) 16 v_40) 17 v_42) 18 v_44) 19 v_46) 20 v_48) 21 v_50) 3 n_52) h53) (
k19 .normal (upd (upd (upd (upd (upd (upd (upd (upd (upd (upd (upd (upd (upd (upd t 8 v_20) 4 c_22) 9 v_24) 10 v_26) 11 v_28) 5 s_30) 12 v_32) 13 v_34) 14 v_36) 15 v_38) 16 v_40) 17 v_42) 18 v_44) 19 v_46) h47)

def L_desk_Desk_Busy_1 (P : Program) (call : FuncId → List AVal → Heap → Res AVal) (fuel : Nat) (t : T) (h : Heap) : Res (Ex × T) :=
lt okK fun k =>
arb (.of (aBin P .lss 3 (.tmp 6) (.const (.int .i64 7)) (t 6) (.int .i64 7)) h) call fun v_12 h13 =>
lt (sqK (J_desk_Desk_Busy_2 P call fuel k) k) fun k54 =>
cb v_12 (
k54 .normal (upd t 7 v_12) h13) (
k54 (.exit 0) (upd t 7 v_12) h13)

def S_desk_Desk_Busy (P : Program) (call : FuncId → List AVal → Heap → Res AVal) (fuel : Nat) (d_a0 : AVal) (h : Heap) : Res AVal :=
lt (retK P [.tmp 2]) fun k =>
arb (.val (.int .i64 0) h) call fun v_0 h1 =>
arb (.val (.int .i64 0) h1) call fun n_2 h3 =>
lt (sqK (J_desk_Desk_Busy_0 P call fuel k) k) fun k8 =>
arb (.val (.int .i64 0) h3) call fun v_9 h10 =>
lt (blkK 0 k8) fun k11 =>
(loopN (L_desk_Desk_Busy_1 P call fuel) fuel (upd (upd (upd (enterT [d_a0]) 2 v_0) 3 n_2) 6 v_9) h10).bind (lpK k11)
theorem E_desk_Desk_Busy (call : FuncId → List AVal → Heap → Res AVal) (fuel : Nat) (d_a0 : AVal) (h : Heap) : bodyR Try.prog call fuel Try.f10 [d_a0] h = S_desk_Desk_Busy Try.prog call fuel d_a0 h := by kernel_rfl
theorem R_desk_Desk_Busy {X : XTab} (d_a0 : AVal) {h : Heap} {Q : AVal → Heap → Prop} (hx : X F_desk_Desk_Busy [d_a0] = none) (q : Tells (fun m => S_desk_Desk_Busy Try.prog (acallX Try.prog X m) m d_a0 h) Q) :
    Tells (fun m => acallX Try.prog X m F_desk_Desk_Busy [d_a0] h) Q :=
  Tells.later (q.le fun m => (E_desk_Desk_Busy (acallX Try.prog X m) m d_a0 h) ▸ acallX_le Try.func10 hx m h)

/-! ### (*precentor/desk.Desk).Open -/
def J_desk_Desk_Open_2 (P : Program) (call : FuncId → List AVal → Heap → Res AVal) (fuel : Nat) (k : Kn (Ex × T)) (t : T) (h : Heap) : Res (Ex × T) :=
arb (.of (aBin P .add 3 (.tmp 6) (.const (.int .i64 1)) (t 6) (.int .i64 1)) h) call fun v_5 h6 =>
arb (.val v_5 h6) call fun v_7 h8 =>
k .normal (upd (upd t 44 v_5) 6 v_7) h8

def J_desk_Desk_Open_3 (P : Program) (call : FuncId → List AVal → Heap → Res AVal) (fuel : Nat) (k : Kn (Ex × T)) (t : T) (h : Heap) : Res (Ex × T) :=
arb (.val (t 5) h) call fun v_23 h24 =>
arb (.val (t 1) h24) call fun v_25 h26 =>
arb (.val (t 4) h26) call fun v_27 h28 =>
arb (.call F_subs_Of [v_25, v_27] h28) call fun v_29 h30 =>
arb (nckR v_23 h30) call fun v_31 h32 =>
arb (.of (fadR 1 v_31) h32) call fun v_33 h34 =>
arb (stR 1 h34 v_33 v_29) call fun v_35 h36 =>
obv (.val (t 5) h36) fun v_37 =>
obv (nckR v_37 h36) fun v_39 =>
obv (.of (fadR 3 v_39) h36) fun v_41 =>
obv (.of (ld1 h36 v_41) h36) fun v_43 => ifb true <|
obv (.val v_43 h36) fun v_45 =>
gdr (wantB v_45 true) (fun c => obv (.val (t 5) h36) fun v_47 =>
c true v_47 h36) h36 fun w49 v_47 h49 =>
gdr (wantB v_45 true) (fun c => obv (nckR v_47 h49) fun v_50 =>
c true v_50 h49) h49 fun w52 v_50 h52 =>
gdr (wantB v_45 true) (fun c => obv (.of (fadR 4 v_50) h52) fun v_53 =>
c true v_53 h52) h52 fun w55 v_53 h55 =>
gdr (wantB v_45 true) (fun c => obv (.of (ld1 h55 v_53) h55) fun v_56 => ifb true <|
c true v_56 h55) h55 fun w58 v_56 h58 =>
gdr (wantB v_45 true) (fun c => obv (.val (t 5) h58) fun v_59 =>
c true v_59 h58) h58 fun w61 v_59 h61 =>
gdr (wantB v_45 true) (fun c => obv (nckR v_59 h61) fun v_62 =>
c true v_62 h61) h61 fun w64 v_62 h64 =>
gdr (wantB v_45 true) (fun c => obv (.of (fadR 1 v_62) h64) fun v_65 =>
c true v_65 h64) h64 fun w67 v_65 h67 =>
gdr (wantB v_45 true) (fun c => obv (.of (ld1 h67 v_65) h67) fun v_68 => ifb true <|
c true v_68 h67) h67 fun w70 v_68 h70 =>
gdr (wantB v_45 true) (fun c => obv (.val (t 4) h70) fun v_71 =>
c true v_71 h70) h70 fun w73 v_71 h73 =>
gdr (wantB v_45 true) (fun c => obv (.val (t 5) h73) fun v_74 =>
c true v_74 h73) h73 fun w76 v_74 h76 =>
gdr (wantB v_45 true) (fun c => obv (nckR v_74 h76) fun v_77 =>
c true v_77 h76) h76 fun w79 v_77 h79 =>
gdr (wantB v_45 true) (fun c => obv (.of (fadR 5 v_77) h79) fun v_80 =>
c true v_80 h79) h79 fun w82 v_80 h82 =>
gdr (wantB v_45 true) (fun c => obv (.of (ld1 h82 v_80) h82) fun v_83 => ifb true <|
c true v_83 h82) h82 fun w85 v_83 h85 =>
gdr (wantB v_45 true) (fun c => arbE (.call F_subs_Has [v_68, v_71, v_83] h85) call fun v_86 h87 => lt h87 fun g87 => ifb (true && ((!w58 || isV v_56 (arVal (.of (ld1 g87 v_53) g87))) && true)) <|
c true v_86 g87) h85 fun w88 v_86 h88 =>
gdr (wantB v_45 true) (fun c => obv (.of (aBin P .neq 4 (.tmp 28) (.tmp 38) v_56 v_86) h88) fun v_89 =>
c true v_89 h88) h88 fun w91 v_89 h91 =>
obv (pkR v_45 v_89 (.bool false) h91) fun v_92 =>
cb v_92 (
arb (.val (t 5) h91) call fun v_94 h95 =>
arb (nckR v_94 h95) call fun v_96 h97 =>
arb (.of (fadR 3 v_96) h97) call fun v_98 h99 =>
arb (stR 1 h99 v_98 (.bool false)) call fun v_100 h101 =>
k .normal (upd (upd (upd (upd (upd (upd (upd (upd (upd (upd (upd (upd (upd (upd (upd (upd (upd (upd (upd (upd (upd (upd (upd (upd (upd (upd (upd (upd (upd (upd t 14 v_23) 15 v_25) 16 v_27) 17 v_29) 18 v_31) 19 v_33) 20 v_37) 21 v_39) 22 v_41) 23 v_43) 24 v_45) 25 v_47) 26 v_50) 27 v_53) 28 v_56) 29 v_59) 30 v_62) 31 v_65) 32 v_68) 33 v_71) 34 v_74) 35 v_77) 36 v_80) 37 v_83) 38 v_86) 39 v_89) 40 v_92) 41 v_94) 42 v_96) 43 v_98) h101) (
k .normal (upd (upd (upd (upd (upd (upd (upd (upd (upd (upd (upd (upd (upd (upd (upd (upd (upd (upd (upd (upd (upd (upd (upd (upd (upd (upd (upd t 14 v_23) 15 v_25) 16 v_27) 17 v_29) 18 v_31) 19 v_33) 20 v_37) 21 v_39) 22 v_41) 23 v_43) 24 v_45) 25 v_47) 26 v_50) 27 v_53) 28 v_56) 29 v_59) 30 v_62) 31 v_65) 32 v_68) 33 v_71) 34 v_74) 35 v_77) 36 v_80) 37 v_83) 38 v_86) 39 v_89) 40 v_92) h91)

def J_desk_Desk_Open_1 (P : Program) (call : FuncId → List AVal → Heap → Res AVal) (fuel : Nat) (k : Kn (Ex × T)) (t : T) (h : Heap) : Res (Ex × T) :=
lt (sqK (J_desk_Desk_Open_2 P call fuel k) k) fun k9 =>
lt (blkK 1 k9) fun k10 =>
arb (.val (t 6) h) call fun v_11 h12 =>
arb (.val v_11 h12) call fun c_13 h14 =>
arb (.val (t 0) h14) call fun v_15 h16 =>
arb (.val c_13 h16) call fun v_17 h18 =>
arb (.call F_desk_Desk_seat [v_15, v_17] h18) call fun v_19 h20 =>
arb (.val v_19 h20) call fun s_21 h22 =>
lt (sqK (J_desk_Desk_Open_3 P call fuel k10) k10) fun k102 =>
arb (.val s_21 h22) call fun v_103 h104 =>
arb (.of (aBin P .eql 79 (.tmp 12) (.const (.pointer none)) v_103 .nilp) h104) call fun v_105 h106 =>
cb v_105 (
k102 (.exit 1) (upd (upd (upd (upd (upd (upd (upd (upd t 8 v_11) 4 c_13) 9 v_15) 10 v_17) 11 v_19) 5 s_21) 12 v_103) 13 v_105) h106) (
k102 .normal (upd (upd (upd (upd (upd (upd (upd (upd t 8 v_11) 4 c_13) 9 v_15) 10 v_17) 11 v_19) 5 s_21) 12 v_103) 13 v_105) h106)

def L_desk_Desk_Open_0 (P : Program) (call : FuncId → List AVal → Heap → Res AVal) (fuel : Nat) (t : T) (h : Heap) : Res (Ex × T) :=
lt okK fun k =>
arb (.of (aBin P .lss 3 (.tmp 6) (.const (.int .i64 7)) (t 6) (.int .i64 7)) h) call fun v_3 h4 =>
lt (sqK (J_desk_Desk_Open_1 P call fuel k) k) fun k107 =>
cb v_3 (
k107 .normal (upd t 7 v_3) h4) (
k107 (.exit 0) (upd t 7 v_3) h4)

def S_desk_Desk_Open (P : Program) (call : FuncId → List AVal → Heap → Res AVal) (fuel : Nat) (d_a0 l_a1 : AVal) (h : Heap) : Res AVal :=
lt (retK P []) fun k =>
arb (.val (.int .i64 0) h) call fun v_0 h1 =>
lt (blkK 0 k) fun k2 =>
(loopN (L_desk_Desk_Open_0 P call fuel) fuel (upd (enterT [d_a0, l_a1]) 6 v_0) h1).bind (lpK k2)
theorem E_desk_Desk_Open (call : FuncId → List AVal → Heap → Res AVal) (fuel : Nat) (d_a0 l_a1 : AVal) (h : Heap) : bodyR Try.prog call fuel Try.f11 [d_a0, l_a1] h = S_desk_Desk_Open Try.prog call fuel d_a0 l_a1 h := by kernel_rfl
theorem R_desk_Desk_Open {X : XTab} (d_a0 l_a1 : AVal) {h : Heap} {Q : AVal → Heap → Prop} (hx : X F_desk_Desk_Open [d_a0, l_a1] = none) (q : Tells (fun m => S_desk_Desk_Open Try.prog (acallX Try.prog X m) m d_a0 l_a1 h) Q) :
    Tells (fun m => acallX Try.prog X m F_desk_Desk_Open [d_a0, l_a1] h) Q :=
  Tells.later (q.le fun m => (E_desk_Desk_Open (acallX Try.prog X m) m d_a0 l_a1 h) ▸ acallX_le Try.func11 hx m h)

/-! ### (*precentor/desk.Desk).Unsubscribe -/
def J_desk_Desk_Unsubscribe_0 (P : Program) (call : FuncId → List AVal → Heap → Res AVal) (fuel : Nat) (k : Kn (AVal)) (t : T) (h : Heap) : Res (AVal) :=
arb (.val (t 8) h) call fun v_12 h13 =>
arb (.val (t 8) h13) call fun v_14 h15 =>
arb (.val (t 8) h15) call fun v_16 h17 =>
arb (.val (t 2) h17) call fun v_18 h19 =>
arb (nckR v_12 h19) call fun v_20 h21 =>
arb (.of (fadR 3 v_20) h21) call fun v_22 h23 =>
arb (stR 1 h23 v_22 (.bool true)) call fun v_24 h25 =>
arb (nckR v_14 h25) call fun v_26 h27 =>
arb (.of (fadR 4 v_26) h27) call fun v_28 h29 =>
arb (stR 1 h29 v_28 (.bool true)) call fun v_30 h31 =>
arb (nckR v_16 h31) call fun v_32 h33 =>
arb (.of (fadR 5 v_32) h33) call fun v_34 h35 =>
arb (stR 1 h35 v_34 v_18) call fun v_36 h37 =>
arb (.val (t 1) h37) call fun v_38 h39 =>
arb (.val (t 0) h39) call fun v_40 h41 =>
arb (nckR v_40 h41) call fun v_42 h43 =>
arb (.of (fadR 0 v_42) h43) call fun v_44 h45 =>
arb (.of (ld1 h45 v_44) h45) call fun v_46 h47 =>
arb (.val (t 2) h47) call fun v_48 h49 =>
arb (.of (bldR [(.int .i64 0), (.int .i64 0), (.int .i64 0), .nils] [(0, 1, v_38), (1, 1, v_46), (2, 1, v_48)]) h49) call fun v_50 h51 =>
arb (.of (bldR [(.bool false), (.int .i64 0), (.int .i64 0), (.int .i64 0), .nils] [(0, 1, (.bool true)), (1, 4, v_50)]) h51) call fun v_52 h53 =>
arb (stR 5 h53 (t 6) v_52) call fun v_54 h55 =>
arb (.val (.int .i64 0) h55) call fun v_56 h57 =>
k .ret (upd (upd (upd (upd (upd (upd (upd (upd (upd (upd (upd (upd (upd (upd (upd (upd (upd (upd (upd t 32 v_12) 33 v_14) 34 v_16) 35 v_18) 36 v_20) 37 v_22) 38 v_26) 39 v_28) 40 v_32) 41 v_34) 42 v_38) 43 v_40) 44 v_42) 45 v_44) 46 v_46) 47 v_48) 48 v_50) 49 v_52) 7 v_56) h57

theorem C_desk_Desk_Unsubscribe_0 (h : Heap) (a : AVal) : aLoad Try.prog h 30 a = ldn 5 h a := by kernel_rfl
def S_desk_Desk_Unsubscribe (P : Program) (call : FuncId → List AVal → Heap → Res AVal) (fuel : Nat) (d_a0 client_a1 num_a2 : AVal) (h : Heap) : Res AVal :=
lt (retK P [.cell 6 30, .tmp 7]) fun k =>
arb (newR [(.bool false), (.int .i64 0), (.int .i64 0), (.int .i64 0), .nils] h) call fun v_0 h1 =>
arb (.val (.int .i64 0) h1) call fun v_2 h3 =>
arb (.val d_a0 h3) call fun v_4 h5 =>
arb (.val client_a1 h5) call fun v_6 h7 =>
arb (.call F_desk_Desk_seat [v_4, v_6] h7) call fun v_8 h9 =>
arb (.val v_8 h9) call fun s_10 h11 =>
lt (sqK (J_desk_Desk_Unsubscribe_0 P call fuel k) k) fun k58 =>
lt (blkK 0 k58) fun k59 =>
arb (.val s_10 h11) call fun v_60 h61 =>
arb (.of (aBin P .eql 79 (.tmp 13) (.const (.pointer none)) v_60 .nilp) h61) call fun v_62 h63 =>
arb (.val v_62 h63) call fun v_64 h65 =>
cb v_64 (
arb (.of (bldR [(.bool false), (.int .i64 0), (.int .i64 0), (.int .i64 0), .nils] []) h65) call fun v_66 h67 =>
arb (stR 5 h67 v_0 v_66) call fun v_68 h69 =>
arb (.val (.int .i64 4) h69) call fun v_70 h71 =>
k59 .ret (upd (upd (upd (upd (upd (upd (upd (upd (upd (upd (upd (enterT [d_a0, client_a1, num_a2]) 6 v_0) 7 v_2) 9 v_4) 10 v_6) 11 v_8) 8 s_10) 13 v_60) 14 v_62) 12 v_64) 15 v_66) 7 v_70) h71) (
arb (.val s_10 h65) call fun v_72 h73 =>
arb (nckR v_72 h73) call fun v_74 h75 =>
arb (.of (fadR 3 v_74) h75) call fun v_76 h77 =>
arb (.of (ld1 h77 v_76) h77) call fun v_78 h79 =>
arb (.val v_78 h79) call fun v_80 h81 =>
cb v_80 (
arb (.of (bldR [(.bool false), (.int .i64 0), (.int .i64 0), (.int .i64 0), .nils] []) h81) call fun v_82 h83 =>
arb (stR 5 h83 v_0 v_82) call fun v_84 h85 =>
arb (.val (.int .i64 7) h85) call fun v_86 h87 =>
k59 .ret (upd (upd (upd (upd (upd (upd (upd (upd (upd (upd (upd (upd (upd (upd (upd (upd (enterT [d_a0, client_a1, num_a2]) 6 v_0) 7 v_2) 9 v_4) 10 v_6) 11 v_8) 8 s_10) 13 v_60) 14 v_62) 12 v_64) 17 v_72) 18 v_74) 19 v_76) 20 v_78) 16 v_80) 21 v_82) 7 v_86) h87) (
arb (.val s_10 h81) call fun v_88 h89 =>
arb (nckR v_88 h89) call fun v_90 h91 =>
arb (.of (fadR 1 v_90) h91) call fun v_92 h93 =>
arb (.of (ld1 h93 v_92) h93) call fun v_94 h95 =>
arb (.val client_a1 h95) call fun v_96 h97 =>
arb (.val num_a2 h97) call fun v_98 h99 =>
arb (.call F_subs_Has [v_94, v_96, v_98] h99) call fun v_100 h101 =>
arb (.of (aUn P .not v_100) h101) call fun v_102 h103 =>
arb (.val v_102 h103) call fun v_104 h105 =>
cb v_104 (
arb (.of (bldR [(.bool false), (.int .i64 0), (.int .i64 0), (.int .i64 0), .nils] []) h105) call fun v_106 h107 =>
arb (stR 5 h107 v_0 v_106) call fun v_108 h109 =>
arb (.val (.int .i64 4) h109) call fun v_110 h111 =>
k59 .ret (upd (upd (upd (upd (upd (upd (upd (upd (upd (upd (upd (upd (upd (upd (upd (upd (upd (upd (upd (upd (upd (upd (upd (upd (upd (enterT [d_a0, client_a1, num_a2]) 6 v_0) 7 v_2) 9 v_4) 10 v_6) 11 v_8) 8 s_10) 13 v_60) 14 v_62) 12 v_64) 17 v_72) 18 v_74) 19 v_76) 20 v_78) 16 v_80) 23 v_88) 24 v_90) 25 v_92) 26 v_94) 27 v_96) 28 v_98) 29 v_100) 30 v_102) 22 v_104) 31 v_106) 7 v_110) h111) (
k59 .normal (upd (upd (upd (upd (upd (upd (upd (upd (upd (upd (upd (upd (upd (upd (upd (upd (upd (upd (upd (upd (upd (upd (upd (enterT [d_a0, client_a1, num_a2]) 6 v_0) 7 v_2) 9 v_4) 10 v_6) 11 v_8) 8 s_10) 13 v_60) 14 v_62) 12 v_64) 17 v_72) 18 v_74) 19 v_76) 20 v_78) 16 v_80) 23 v_88) 24 v_90) 25 v_92) 26 v_94) 27 v_96) 28 v_98) 29 v_100) 30 v_102) 22 v_104) h105)))
theorem E_desk_Desk_Unsubscribe (call : FuncId → List AVal → Heap → Res AVal) (fuel : Nat) (d_a0 client_a1 num_a2 : AVal) (h : Heap) : bodyR Try.prog call fuel Try.f12 [d_a0, client_a1, num_a2] h = S_desk_Desk_Unsubscribe Try.prog call fuel d_a0 client_a1 num_a2 h := by kernel_rfl
theorem R_desk_Desk_Unsubscribe {X : XTab} (d_a0 client_a1 num_a2 : AVal) {h : Heap} {Q : AVal → Heap → Prop} (hx : X F_desk_Desk_Unsubscribe [d_a0, client_a1, num_a2] = none) (q : Tells (fun m => S_desk_Desk_Unsubscribe Try.prog (acallX Try.prog X m) m d_a0 client_a1 num_a2 h) Q) :
    Tells (fun m => acallX Try.prog X m F_desk_Desk_Unsubscribe [d_a0, client_a1, num_a2] h) Q :=
  Tells.later (q.le fun m => (E_desk_Desk_Unsubscribe (acallX Try.prog X m) m d_a0 client_a1 num_a2 h) ▸ acallX_le Try.func12 hx m h)

/-! ### (*precentor/desk.Desk).Hear -/
def J_desk_Desk_Hear_0 (P : Program) (call : FuncId → List AVal → Heap → Res AVal) (fuel : Nat) (k : Kn (AVal)) (t : T) (h : Heap) : Res (AVal) :=
obv (.val (t 7) h) fun v_12 =>
obv (.val (t 7) h) fun v_14 =>
obv (nckR v_14 h) fun v_16 =>
obv (.of (fadR 6 v_16) h) fun v_18 =>
obv (.of (ld1 h v_18) h) fun v_20 => ifb true <|
obv (.of (ldn 4 h (t 5)) h) fun v_22 => ifb true <|
arbE (.call F_desk_clone [v_22] h) call fun v_24 h25 => lt h25 fun g25 => ifb (true && (isV v_20 (arVal (.of (ld1 g25 v_18) g25)) && true)) <|
arbV (bslR 4 [(.int .i64 0), (.int .i64 0), (.int .i64 0), .nils] 1 g25 [(0, 4, v_24)]) fun v_26 h27 =>
arbE (appR 4 48 h27 v_20 v_26) call fun v_28 h29 => lt h29 fun g29 => ifb (true && true) <|
obv (nckR v_12 g29) fun v_30 =>
obv (.of (fadR 6 v_30) g29) fun v_32 =>
arbE (stR 1 g29 v_32 v_28) call fun v_34 h35 => lt h35 fun g35 => ifb (true && true) <|
arb (.val (.bool true) g35) call fun v_36 h37 =>
k .ret (upd (upd (upd (upd (upd (upd (upd (upd (upd (upd (upd (upd t 13 v_12) 14 v_14) 15 v_16) 16 v_18) 17 v_20) 18 v_22) 19 v_24) 20 v_26) 21 v_28) 22 v_30) 23 v_32) 6 v_36) h37

def S_desk_Desk_Hear (P : Program) (call : FuncId → List AVal → Heap → Res AVal) (fuel : Nat) (d_a0 client_a1 s_a2 : AVal) (h : Heap) : Res AVal :=
lt (retK P [.tmp 6]) fun k =>
arb (boxR s_a2 h) call fun s_0 h1 =>
arb (.val (.bool false) h1) call fun v_2 h3 =>
arb (.val d_a0 h3) call fun v_4 h5 =>
arb (.val client_a1 h5) call fun v_6 h7 =>
arb (.call F_desk_Desk_seat [v_4, v_6] h7) call fun v_8 h9 =>
arb (.val v_8 h9) call fun x_10 h11 =>
lt (sqK (J_desk_Desk_Hear_0 P call fuel k) k) fun k38 =>
arb (.val x_10 h11) call fun v_39 h40 =>
arb (.of (aBin P .eql 79 (.tmp 11) (.const (.pointer none)) v_39 .nilp) h40) call fun v_41 h42 =>
cb v_41 (
arb (.val (.bool false) h42) call fun v_43 h44 =>
k38 .ret (upd (upd (upd (upd (upd (upd (upd (upd (upd (enterT [d_a0, client_a1, s_a2]) 5 s_0) 6 v_2) 8 v_4) 9 v_6) 10 v_8) 7 x_10) 11 v_39) 12 v_41) 6 v_43) h44) (
k38 .normal (upd (upd (upd (upd (upd (upd (upd (upd (enterT [d_a0, client_a1, s_a2]) 5 s_0) 6 v_2) 8 v_4) 9 v_6) 10 v_8) 7 x_10) 11 v_39) 12 v_41) h42)
theorem E_desk_Desk_Hear (call : FuncId → List AVal → Heap → Res AVal) (fuel : Nat) (d_a0 client_a1 s_a2 : AVal) (h : Heap) : bodyR Try.prog call fuel Try.f13 [d_a0, client_a1, s_a2] h = S_desk_Desk_Hear Try.prog call fuel d_a0 client_a1 s_a2 h := by kernel_rfl
theorem R_desk_Desk_Hear {X : XTab} (d_a0 client_a1 s_a2 : AVal) {h : Heap} {Q : AVal → Heap → Prop} (hx : X F_desk_Desk_Hear [d_a0, client_a1, s_a2] = none) (q : Tells (fun m => S_desk_Desk_Hear Try.prog (acallX Try.prog X m) m d_a0 client_a1 s_a2 h) Q) :
    Tells (fun m => acallX Try.prog X m F_desk_Desk_Hear [d_a0, client_a1, s_a2] h) Q :=
  Tells.later (q.le fun m => (E_desk_Desk_Hear (acallX Try.prog X m) m d_a0 client_a1 s_a2 h) ▸ acallX_le Try.func13 hx m h)

/-! ### (*precentor/desk.Desk).Log -/
def J_desk_Desk_Log_0 (P : Program) (call : FuncId → List AVal → Heap → Res AVal) (fuel : Nat) (k : Kn (AVal)) (t : T) (h : Heap) : Res (AVal) :=
arb (.val (t 5) h) call fun v_4 h5 =>
arb (.val v_4 h5) call fun v_6 h7 =>
k .ret (upd (upd t 29 v_4) 4 v_6) h7

def J_desk_Desk_Log_3 (P : Program) (call : FuncId → List AVal → Heap → Res AVal) (fuel : Nat) (k : Kn (Ex × T)) (t : T) (h : Heap) : Res (Ex × T) :=
arb (.of (aBin P .add 3 (.tmp 19) (.const (.int .i64 1)) (t 19) (.int .i64 1)) h) call fun v_36 h37 =>
arb (.val v_36 h37) call fun v_38 h39 =>
k .normal (upd (upd t 28 v_36) 19 v_38) h39

def J_desk_Desk_Log_2 (P : Program) (call : FuncId → List AVal → Heap → Res AVal) (fuel : Nat) (k : Kn (Ex × T)) (t : T) (h : Heap) : Res (Ex × T) :=
lt (sqK (J_desk_Desk_Log_3 P call fuel k) k) fun k40 =>
lt (blkK 1 k40) fun k41 =>
arb (.of (ixsR 4 (t 17) (t 19)) h) call fun v_42 h43 =>
arb (.of (ldn 4 h43 v_42) h43) call fun v_44 h45 =>
arb (newR [(.int .i64 0), (.int .i64 0), (.int .i64 0), .nils] h45) call fun x_46 h47 =>
arb (stR 4 h47 x_46 v_44) call fun v_48 h49 =>
arb (.val (t 5) h49) call fun v_50 h51 =>
arb (.of (ldn 4 h51 x_46) h51) call fun v_52 h53 =>
arb (.call F_desk_clone [v_52] h53) call fun v_54 h55 =>
arb (bslR 4 [(.int .i64 0), (.int .i64 0), (.int .i64 0), .nils] 1 h55 [(0, 4, v_54)]) call fun v_56 h57 =>
arb (appR 4 48 h57 v_50 v_56) call fun v_58 h59 =>
arb (.val v_58 h59) call fun out_60 h61 =>
k41 .normal (upd (upd (upd (upd (upd (upd (upd (upd (upd t 21 v_42) 22 v_44) 8 x_46) 23 v_50) 24 v_52) 25 v_54) 26 v_56) 27 v_58) 5 out_60) h61

def L_desk_Desk_Log_1 (P : Program) (call : FuncId → List AVal → Heap → Res AVal) (fuel : Nat) (t : T) (h : Heap) : Res (Ex × T) :=
lt okK fun k =>
arb (.of (aBin P .lss 3 (.tmp 19) (.tmp 18) (t 19) (t 18)) h) call fun v_34 h35 =>
lt (sqK (J_desk_Desk_Log_2 P call fuel k) k) fun k62 =>
cb v_34 (
k62 .normal (upd t 20 v_34) h35) (
k62 (.exit 0) (upd t 20 v_34) h35)

def S_desk_Desk_Log (P : Program) (call : FuncId → List AVal → Heap → Res AVal) (fuel : Nat) (d_a0 client_a1 : AVal) (h : Heap) : Res AVal :=
lt (retK P [.tmp 4]) fun k =>
arb (.val .nils h) call fun v_0 h1 =>
arb (.val .nils h1) call fun out_2 h3 =>
lt (sqK (J_desk_Desk_Log_0 P call fuel k) k) fun k8 =>
arb (.val d_a0 h3) call fun v_9 h10 =>
arb (.val client_a1 h10) call fun v_11 h12 =>
arb (.call F_desk_Desk_seat [v_9, v_11] h12) call fun v_13 h14 =>
arb (.val v_13 h14) call fun s_15 h16 =>
arb (.val s_15 h16) call fun v_17 h18 =>
arb (.of (aBin P .neq 79 (.tmp 12) (.const (.pointer none)) v_17 .nilp) h18) call fun v_19 h20 =>
cb v_19 (
arb (.val s_15 h20) call fun v_21 h22 =>
arb (nckR v_21 h22) call fun v_23 h24 =>
arb (.of (fadR 6 v_23) h24) call fun v_25 h26 =>
arb (.of (ld1 h26 v_25) h26) call fun v_27 h28 =>
arb (.of (lenL v_27) h28) call fun v_29 h30 =>
arb (.val (.int .i64 0) h30) call fun v_31 h32 =>
lt (blkK 0 k8) fun k33 =>
(loopN (L_desk_Desk_Log_1 P call fuel) fuel (upd (upd (upd (upd (upd (upd (upd (upd (upd (upd (upd (upd (upd (upd (enterT [d_a0, client_a1]) 4 v_0) 5 out_2) 9 v_9) 10 v_11) 11 v_13) 6 s_15) 12 v_17) 13 v_19) 14 v_21) 15 v_23) 16 v_25) 17 v_27) 18 v_29) 19 v_31) h32).bind (lpK k33)) (
k8 .normal (upd (upd (upd (upd (upd (upd (upd (upd (enterT [d_a0, client_a1]) 4 v_0) 5 out_2) 9 v_9) 10 v_11) 11 v_13) 6 s_15) 12 v_17) 13 v_19) h20)
theorem E_desk_Desk_Log (call : FuncId → List AVal → Heap → Res AVal) (fuel : Nat) (d_a0 client_a1 : AVal) (h : Heap) : bodyR Try.prog call fuel Try.f14 [d_a0, client_a1] h = S_desk_Desk_Log Try.prog call fuel d_a0 client_a1 h := by kernel_rfl
theorem R_desk_Desk_Log {X : XTab} (d_a0 client_a1 : AVal) {h : Heap} {Q : AVal → Heap → Prop} (hx : X F_desk_Desk_Log [d_a0, client_a1] = none) (q : Tells (fun m => S_desk_Desk_Log Try.prog (acallX Try.prog X m) m d_a0 client_a1 h) Q) :
    Tells (fun m => acallX Try.prog X m F_desk_Desk_Log [d_a0, client_a1] h) Q :=
  Tells.later (q.le fun m => (E_desk_Desk_Log (acallX Try.prog X m) m d_a0 client_a1 h) ▸ acallX_le Try.func14 hx m h)

/-! ### (*precentor/desk.Desk).Clients -/
def J_desk_Desk_Clients_0 (P : Program) (call : FuncId → List AVal → Heap → Res AVal) (fuel : Nat) (k : Kn (AVal)) (t : T) (h : Heap) : Res (AVal) :=
arb (.val (t 3) h) call fun v_4 h5 =>
arb (.val v_4 h5) call fun v_6 h7 =>
k .ret (upd (upd t 17 v_4) 2 v_6) h7

def J_desk_Desk_Clients_3 (P : Program) (call : FuncId → List AVal → Heap → Res AVal) (fuel : Nat) (k : Kn (Ex × T)) (t : T) (h : Heap) : Res (Ex × T) :=
arb (.of (aBin P .add 3 (.tmp 5) (.const (.int .i64 1)) (t 5) (.int .i64 1)) h) call fun v_14 h15 =>
arb (.val v_14 h15) call fun v_16 h17 =>
k .normal (upd (upd t 16 v_14) 5 v_16) h17

def J_desk_Desk_Clients_2 (P : Program) (call : FuncId → List AVal → Heap → Res AVal) (fuel : Nat) (k : Kn (Ex × T)) (t : T) (h : Heap) : Res (Ex × T) :=
lt (sqK (J_desk_Desk_Clients_3 P call fuel k) k) fun k18 =>
lt (blkK 1 k18) fun k19 =>
arb (.val (t 5) h) call fun v_20 h21 =>
arb (.val v_20 h21) call fun c_22 h23 =>
arb (.val (t 0) h23) call fun v_24 h25 =>
arb (.val c_22 h25) call fun v_26 h27 =>
arb (.call F_desk_Desk_seat [v_24, v_26] h27) call fun v_28 h29 =>
arb (.of (aBin P .neq 79 (.tmp 10) (.const (.pointer none)) v_28 .nilp) h29) call fun v_30 h31 =>
cb v_30 (
arb (.val (t 3) h31) call fun v_32 h33 =>
arb (.val c_22 h33) call fun v_34 h35 =>
arb (bslR 1 [(.int .i64 0)] 1 h35 [(0, 1, v_34)]) call fun v_36 h37 =>
arb (appR 1 8 h37 v_32 v_36) call fun v_38 h39 =>
arb (.val v_38 h39) call fun out_40 h41 =>
k19 .normal (upd (upd (upd (upd (upd (upd (upd (upd (upd (upd (upd t 7 v_20) 4 c_22) 8 v_24) 9 v_26) 10 v_28) 11 v_30) 12 v_32) 13 v_34) 14 v_36) 15 v_38) 3 out_40) h41) (
k19 .normal (upd (upd (upd (upd (upd (upd t 7 v_20) 4 c_22) 8 v_24) 9 v_26) 10 v_28) 11 v_30) h31)

def L_desk_Desk_Clients_1 (P : Program) (call : FuncId → List AVal → Heap → Res AVal) (fuel : Nat) (t : T) (h : Heap) : Res (Ex × T) :=
lt okK fun k =>
arb (.of (aBin P .lss 3 (.tmp 5) (.const (.int .i64 7)) (t 5) (.int .i64 7)) h) call fun v_12 h13 =>
lt (sqK (J_desk_Desk_Clients_2 P call fuel k) k) fun k42 =>
cb v_12 (
k42 .normal (upd t 6 v_12) h13) (
k42 (.exit 0) (upd t 6 v_12) h13)

def S_desk_Desk_Clients (P : Program) (call : FuncId → List AVal → Heap → Res AVal) (fuel : Nat) (d_a0 : AVal) (h : Heap) : Res AVal :=
lt (retK P [.tmp 2]) fun k =>
arb (.val .nils h) call fun v_0 h1 =>
arb (.val .nils h1) call fun out_2 h3 =>
lt (sqK (J_desk_Desk_Clients_0 P call fuel k) k) fun k8 =>
arb (.val (.int .i64 0) h3) call fun v_9 h10 =>
lt (blkK 0 k8) fun k11 =>
(loopN (L_desk_Desk_Clients_1 P call fuel) fuel (upd (upd (upd (enterT [d_a0]) 2 v_0) 3 out_2) 5 v_9) h10).bind (lpK k11)
theorem E_desk_Desk_Clients (call : FuncId → List AVal → Heap → Res AVal) (fuel : Nat) (d_a0 : AVal) (h : Heap) : bodyR Try.prog call fuel Try.f15 [d_a0] h = S_desk_Desk_Clients Try.prog call fuel d_a0 h := by kernel_rfl
theorem R_desk_Desk_Clients {X : XTab} (d_a0 : AVal) {h : Heap} {Q : AVal → Heap → Prop} (hx : X F_desk_Desk_Clients [d_a0] = none) (q : Tells (fun m => S_desk_Desk_Clients Try.prog (acallX Try.prog X m) m d_a0 h) Q) :
    Tells (fun m => acallX Try.prog X m F_desk_Desk_Clients [d_a0] h) Q :=
  Tells.later (q.le fun m => (E_desk_Desk_Clients (acallX Try.prog X m) m d_a0 h) ▸ acallX_le Try.func15 hx m h)

/-! ### (*precentor/desk.Desk).Poll -/
def J_desk_Desk_Poll_0 (P : Program) (call : FuncId → List AVal → Heap → Res AVal) (fuel : Nat) (k : Kn (AVal)) (t : T) (h : Heap) : Res (AVal) :=
arb (.val (t 6) h) call fun v_12 h13 =>
arb (nckR v_12 h13) call fun v_14 h15 =>
arb (.of (fadR 7 v_14) h15) call fun v_16 h17 =>
arb (.of (ld1 h17 v_16) h17) call fun v_18 h19 =>
arb (.of (aBin P .add 3 (.tmp 28) (.const (.int .i64 1)) v_18 (.int .i64 1)) h19) call fun v_20 h21 =>
arb (nckR v_12 h21) call fun v_22 h23 =>
arb (.of (fadR 7 v_22) h23) call fun v_24 h25 =>
arb (stR 1 h25 v_24 v_20) call fun v_26 h27 =>
obv (.val (t 6) h27) fun v_28 =>
obv (nckR v_28 h27) fun v_30 =>
obv (.of (fadR 6 v_30) h27) fun v_32 =>
obv (.of (ld1 h27 v_32) h27) fun v_34 => ifb true <|
obv (.val (t 6) h27) fun v_36 =>
obv (nckR v_36 h27) fun v_38 =>
obv (.of (fadR 7 v_38) h27) fun v_40 =>
obv (.of (ld1 h27 v_40) h27) fun v_42 => ifb true <|
obv (.of (aBin P .sub 3 (.tmp 39) (.const (.int .i64 1)) v_42 (.int .i64 1)) h27) fun v_44 =>
obv (.of (ixsR 4 v_34 v_44) h27) fun v_46 =>
obv (.of (ldn 4 h27 v_46) h27) fun v_48 => ifb true <|
arbE (.call F_desk_clone [v_48] h27) call fun v_50 h51 => lt h51 fun g51 => ifb (true && true) <|
arbE (stR 4 g51 (t 4) v_50) call fun v_52 h53 => lt h53 fun g53 => ifb (true && true) <|
obv (.val (.int .i64 0) g53) fun v_54 =>
k .ret (upd (upd (upd (upd (upd (upd (upd (upd (upd (upd (upd (upd (upd (upd (upd (upd (upd (upd (upd (upd t 25 v_12) 26 v_14) 27 v_16) 28 v_18) 29 v_20) 30 v_22) 31 v_24) 32 v_28) 33 v_30) 34 v_32) 35 v_34) 36 v_36) 37 v_38) 38 v_40) 39 v_42) 40 v_44) 41 v_46) 42 v_48) 43 v_50) 5 v_54) g53

theorem C_desk_Desk_Poll_0 (h : Heap) (a : AVal) : aLoad Try.prog h 45 a = ldn 4 h a := by kernel_rfl
def S_desk_Desk_Poll (P : Program) (call : FuncId → List AVal → Heap → Res AVal) (fuel : Nat) (d_a0 client_a1 : AVal) (h : Heap) : Res AVal :=
lt (retK P [.cell 4 45, .tmp 5]) fun k =>
arb (newR [(.int .i64 0), (.int .i64 0), (.int .i64 0), .nils] h) call fun v_0 h1 =>
arb (.val (.int .i64 0) h1) call fun v_2 h3 =>
arb (.val d_a0 h3) call fun v_4 h5 =>
arb (.val client_a1 h5) call fun v_6 h7 =>
arb (.call F_desk_Desk_seat [v_4, v_6] h7) call fun v_8 h9 =>
arb (.val v_8 h9) call fun s_10 h11 =>
lt (sqK (J_desk_Desk_Poll_0 P call fuel k) k) fun k56 =>
obv (.val s_10 h11) fun v_57 =>
obv (.of (aBin P .eql 79 (.tmp 10) (.const (.pointer none)) v_57 .nilp) h11) fun v_58 =>
obv (.val v_58 h11) fun v_59 =>
gd (wantB v_59 false) (fun c => obv (.val s_10 h11) fun v => c v h11) h11 fun v_60 h61 =>
gd (wantB v_59 false) (fun c => obv (nckR v_60 h61) fun v => c v h61) h61 fun v_62 h63 =>
gd (wantB v_59 false) (fun c => obv (.of (fadR 7 v_62) h63) fun v => c v h63) h63 fun v_64 h65 =>
gd (wantB v_59 false) (fun c => obv (.of (ld1 h65 v_64) h65) fun v => c v h65) h65 fun v_66 h67 =>
gd (wantB v_59 false) (fun c => obv (.val s_10 h67) fun v => c v h67) h67 fun v_68 h69 =>
gd (wantB v_59 false) (fun c => obv (nckR v_68 h69) fun v => c v h69) h69 fun v_70 h71 =>
gd (wantB v_59 false) (fun c => obv (.of (fadR 6 v_70) h71) fun v => c v h71) h71 fun v_72 h73 =>
gd (wantB v_59 false) (fun c => obv (.of (ld1 h73 v_72) h73) fun v => c v h73) h73 fun v_74 h75 =>
gd (wantB v_59 false) (fun c => obv (.of (lenL v_74) h75) fun v => c v h75) h75 fun v_76 h77 =>
gd (wantB v_59 false) (fun c => obv (.of (aBin P .geq 3 (.tmp 16) (.tmp 21) v_66 v_76) h77) fun v => c v h77) h77 fun v_78 h79 =>
obv (pkR v_59 (.bool true) v_78 h79) fun v_80 =>
cb v_80 (
arb (.of (bldR [(.int .i64 0), (.int .i64 0), (.int .i64 0), .nils] []) h79) call fun v_81 h82 =>
arb (stR 4 h82 v_0 v_81) call fun v_83 h84 =>
arb (.val (.int .i64 4) h84) call fun v_85 h86 =>
k56 .ret (upd (upd (upd (upd (upd (upd (upd (upd (upd (upd (upd (upd (upd (upd (upd (upd (upd (upd (upd (upd (upd (upd (enterT [d_a0, client_a1]) 4 v_0) 5 v_2) 7 v_4) 8 v_6) 9 v_8) 6 s_10) 10 v_57) 11 v_58) 12 v_59) 13 v_60) 14 v_62) 15 v_64) 16 v_66) 17 v_68) 18 v_70) 19 v_72) 20 v_74) 21 v_76) 22 v_78) 23 v_80) 24 v_81) 5 v_85) h86) (
k56 .normal (upd (upd (upd (upd (upd (upd (upd (upd (upd (upd (upd (upd (upd (upd (upd (upd (upd (upd (upd (upd (enterT [d_a0, client_a1]) 4 v_0) 5 v_2) 7 v_4) 8 v_6) 9 v_8) 6 s_10) 10 v_57) 11 v_58) 12 v_59) 13 v_60) 14 v_62) 15 v_64) 16 v_66) 17 v_68) 18 v_70) 19 v_72) 20 v_74) 21 v_76) 22 v_78) 23 v_80) h79)
theorem E_desk_Desk_Poll (call : FuncId → List AVal → Heap → Res AVal) (fuel : Nat) (d_a0 client_a1 : AVal) (h : Heap) : bodyR Try.prog call fuel Try.f16 [d_a0, client_a1] h = S_desk_Desk_Poll Try.prog call fuel d_a0 client_a1 h := by kernel_rfl
theorem R_desk_Desk_Poll {X : XTab} (d_a0 client_a1 : AVal) {h : Heap} {Q : AVal → Heap → Prop} (hx : X F_desk_Desk_Poll [d_a0, client_a1] = none) (q : Tells (fun m => S_desk_Desk_Poll Try.prog (acallX Try.prog X m) m d_a0 client_a1 h) Q) :
    Tells (fun m => acallX Try.prog X m F_desk_Desk_Poll [d_a0, client_a1] h) Q :=
  Tells.later (q.le fun m => (E_desk_Desk_Poll (acallX Try.prog X m) m d_a0 client_a1 h) ▸ acallX_le Try.func16 hx m h)

/-! ### (*precentor/desk.Desk).seat -/
def J_desk_Desk_seat_0 (P : Program) (call : FuncId → List AVal → Heap → Res AVal) (fuel : Nat) (k : Kn (AVal)) (t : T) (h : Heap) : Res (AVal) :=
arb (.val (t 0) h) call fun v_2 h3 =>
arb (.val (t 1) h3) call fun v_4 h5 =>
arb (nckR v_2 h5) call fun v_6 h7 =>
arb (.of (fadR 1 v_6) h7) call fun v_8 h9 =>
arb (.of (ixpR 7 8 v_8 v_4) h9) call fun v_10 h11 =>
arb (.val v_10 h11) call fun v_12 h13 =>
k .ret (upd (upd (upd (upd (upd (upd t 21 v_2) 22 v_4) 23 v_6) 24 v_8) 25 v_10) 4 v_12) h13

def S_desk_Desk_seat (P : Program) (call : FuncId → List AVal → Heap → Res AVal) (fuel : Nat) (d_a0 client_a1 : AVal) (h : Heap) : Res AVal :=
lt (retK P [.tmp 4]) fun k =>
arb (.val .nilp h) call fun v_0 h1 =>
lt (sqK (J_desk_Desk_seat_0 P call fuel k) k) fun k14 =>
arb (.val client_a1 h1) call fun v_15 h16 =>
arb (.of (aBin P .lss 3 (.tmp 5) (.const (.int .i64 1)) v_15 (.int .i64 1)) h16) call fun v_17 h18 =>
arb (.val v_17 h18) call fun v_19 h20 =>
gd (wantB v_19 false) (fun c => arb (.val client_a1 h20) call c) h20 fun v_21 h22 =>
gd (wantB v_19 false) (fun c => arb (.of (aBin P .gtr 3 (.tmp 8) (.const (.int .i64 6)) v_21 (.int .i64 6)) h22) call c) h22 fun v_23 h24 =>
arb (pkR v_19 (.bool true) v_23 h24) call fun v_25 h26 =>
arb (.val v_25 h26) call fun v_27 h28 =>
gd (wantB v_27 false) (fun c => arb (.val d_a0 h28) call c) h28 fun v_29 h30 =>
gd (wantB v_27 false) (fun c => arb (.val client_a1 h30) call c) h30 fun v_31 h32 =>
gd (wantB v_27 false) (fun c => arb (nckR v_29 h32) call c) h32 fun v_33 h34 =>
gd (wantB v_27 false) (fun c => arb (.of (fadR 1 v_33) h34) call c) h34 fun v_35 h36 =>
gd (wantB v_27 false) (fun c => arb (.of (ixpR 7 8 v_35 v_31) h36) call c) h36 fun v_37 h38 =>
gd (wantB v_27 false) (fun c => arb (.of (fadR 0 v_37) h38) call c) h38 fun v_39 h40 =>
gd (wantB v_27 false) (fun c => arb (.of (ld1 h40 v_39) h40) call c) h40 fun v_41 h42 =>
gd (wantB v_27 false) (fun c => arb (.of (aUn P .not v_41) h42) call c) h42 fun v_43 h44 =>
arb (pkR v_27 (.bool true) v_43 h44) call fun v_45 h46 =>
cb v_45 (
arb (.val .nilp h46) call fun v_47 h48 =>
k14 .ret (upd (upd (upd (upd (upd (upd (upd (upd (upd (upd (upd (upd (upd (upd (upd (upd (upd (upd (enterT [d_a0, client_a1]) 4 v_0) 5 v_15) 6 v_17) 7 v_19) 8 v_21) 9 v_23) 10 v_25) 11 v_27) 12 v_29) 13 v_31) 14 v_33) 15 v_35) 16 v_37) 17 v_39) 18 v_41) 19 v_43) 20 v_45) 4 v_47) h48) (
k14 .normal (upd (upd (upd (upd (upd (upd (upd (upd (upd (upd (upd (upd (upd (upd (upd (upd (upd (enterT [d_a0, client_a1]) 4 v_0) 5 v_15) 6 v_17) 7 v_19) 8 v_21) 9 v_23) 10 v_25) 11 v_27) 12 v_29) 13 v_31) 14 v_33) 15 v_35) 16 v_37) 17 v_39) 18 v_41) 19 v_43) 20 v_45) h46)
theorem E_desk_Desk_seat (call : FuncId → List AVal → Heap → Res AVal) (fuel : Nat) (d_a0 client_a1 : AVal) (h : Heap) : bodyR Try.prog call fuel Try.f33 [d_a0, client_a1] h = S_desk_Desk_seat Try.prog call fuel d_a0 client_a1 h := by kernel_rfl
theorem R_desk_Desk_seat {X : XTab} (d_a0 client_a1 : AVal) {h : Heap} {Q : AVal → Heap → Prop} (hx : X F_desk_Desk_seat [d_a0, client_a1] = none) (q : Tells (fun m => S_desk_Desk_seat Try.prog (acallX Try.prog X m) m d_a0 client_a1 h) Q) :
    Tells (fun m => acallX Try.prog X m F_desk_Desk_seat [d_a0, client_a1] h) Q :=
  Tells.later (q.le fun m => (E_desk_Desk_seat (acallX Try.prog X m) m d_a0 client_a1 h) ▸ acallX_le Try.func33 hx m h)

/-! ### precentor/desk.clone -/

theorem C_desk_clone_0 (h : Heap) (a : AVal) : aLoad Try.prog h 45 a = ldn 4 h a := by kernel_rfl
def S_desk_clone (P : Program) (call : FuncId → List AVal → Heap → Res AVal) (fuel : Nat) (s_a0 : AVal) (h : Heap) : Res AVal :=
lt (retK P [.cell 2 45]) fun k =>
arb (boxR s_a0 h) call fun s_0 h1 =>
arb (newR [(.int .i64 0), (.int .i64 0), (.int .i64 0), .nils] h1) call fun v_2 h3 =>
arb (.of (fadR 3 s_0) h3) call fun v_4 h5 =>
arb (.of (ld1 h5 v_4) h5) call fun v_6 h7 =>
arb (.call F_attr_Copy [v_6] h7) call fun v_8 h9 =>
arb (.of (fadR 3 s_0) h9) call fun v_10 h11 =>
arb (stR 1 h11 v_10 v_8) call fun v_12 h13 =>
arb (.of (ldn 4 h13 s_0) h13) call fun v_14 h15 =>
arb (stR 4 h15 v_2 v_14) call fun v_16 h17 =>
k .ret (upd (upd (upd (upd (upd (upd (upd (enterT [s_a0]) 1 s_0) 2 v_2) 3 v_4) 4 v_6) 5 v_8) 6 v_10) 7 v_14) h17
theorem E_desk_clone (call : FuncId → List AVal → Heap → Res AVal) (fuel : Nat) (s_a0 : AVal) (h : Heap) : bodyR Try.prog call fuel Try.f38 [s_a0] h = S_desk_clone Try.prog call fuel s_a0 h := by kernel_rfl
theorem R_desk_clone {X : XTab} (s_a0 : AVal) {h : Heap} {Q : AVal → Heap → Prop} (hx : X F_desk_clone [s_a0] = none) (q : Tells (fun m => S_desk_clone Try.prog (acallX Try.prog X m) m s_a0 h) Q) :
    Tells (fun m => acallX Try.prog X m F_desk_clone [s_a0] h) Q :=
  Tells.later (q.le fun m => (E_desk_clone (acallX Try.prog X m) m s_a0 h) ▸ acallX_le Try.func38 hx m h)


end Go.Proofs.Ytbolfamaffbnnaa
