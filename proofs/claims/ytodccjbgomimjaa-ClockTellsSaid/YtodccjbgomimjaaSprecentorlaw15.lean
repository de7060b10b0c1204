/-
  Functions of precentorlaw15 in the form of YtodccjbgomimjaaABS (printed by a program of ours, gen.lean).
-/
import Derived.Test.YtodccjbgomimjaaSIds
set_option linter.unusedVariables false
namespace Go.Proofs.Ytodccjbgomimjaa
open Go.Ab
/-! ### precentor/precentorlaw15.ClockTells -/
def J_precentorlaw15_ClockTells_3 (P : Program) (call : FuncId → List AVal → Heap → Res AVal) (fuel : Nat) (k : Kn (AVal)) (t : T) (h : Heap) : Res (AVal) :=
arb (.val (.bool true) h) call fun v_34 h35 =>
k .ret (upd t 4 v_34) h35

def J_precentorlaw15_ClockTells_6 (P : Program) (call : FuncId → List AVal → Heap → Res AVal) (fuel : Nat) (k : Kn (Ex × T)) (t : T) (h : Heap) : Res (Ex × T) :=
arb (.val (t 14) h) call fun v_40 h41 =>
arb (.of (aBin P .add 3 (.tmp 88) (.const (.int .i64 1)) v_40 (.int .i64 1)) h41) call fun v_42 h43 =>
arb (.val v_42 h43) call fun i_44 h45 =>
k .normal (upd (upd (upd t 88 v_40) 89 v_42) 14 i_44) h45

def J_precentorlaw15_ClockTells_5 (P : Program) (call : FuncId → List AVal → Heap → Res AVal) (fuel : Nat) (k : Kn (Ex × T)) (t : T) (h : Heap) : Res (Ex × T) :=
lt (sqK (J_precentorlaw15_ClockTells_6 P call fuel k) k) fun k46 =>
lt (blkK 7 k46) fun k47 =>
obv (.val (t 13) h) fun v_48 =>
obv (.val (t 14) h) fun v_49 =>
obv (.of (ixsR 1 v_48 v_49) h) fun v_50 =>
obv (.of (ld1 h v_50) h) fun v_51 =>
obv (.of (fadR 0 (t 9)) h) fun v_52 =>
obv (.of (ld1 h v_52) h) fun v_53 =>
obv (.val (t 14) h) fun v_54 =>
obv (.of (ixsR 1 v_53 v_54) h) fun v_55 =>
obv (.of (ld1 h v_55) h) fun v_56 =>
obv (.of (aBin P .neq 3 (.tmp 93) (.tmp 98) v_51 v_56) h) fun v_57 =>
cb v_57 (
arb (.val (.bool false) h) call fun v_58 h59 =>
k47 .ret (upd (upd (upd (upd (upd (upd (upd (upd (upd (upd (upd t 90 v_48) 91 v_49) 92 v_50) 93 v_51) 94 v_52) 95 v_53) 96 v_54) 97 v_55) 98 v_56) 99 v_57) 4 v_58) h59) (
k47 .normal (upd (upd (upd (upd (upd (upd (upd (upd (upd (upd t 90 v_48) 91 v_49) 92 v_50) 93 v_51) 94 v_52) 95 v_53) 96 v_54) 97 v_55) 98 v_56) 99 v_57) h)

def L_precentorlaw15_ClockTells_4 (P : Program) (call : FuncId → List AVal → Heap → Res AVal) (fuel : Nat) (t : T) (h : Heap) : Res (Ex × T) :=
lt okK fun k =>
lt (sqK (J_precentorlaw15_ClockTells_5 P call fuel k) k) fun k60 =>
arb (.val (t 14) h) call fun v_61 h62 =>
arb (.val (t 13) h62) call fun v_63 h64 =>
arb (.of (lenL v_63) h64) call fun v_65 h66 =>
arb (.of (aBin P .lss 3 (.tmp 84) (.tmp 86) v_61 v_65) h66) call fun v_67 h68 =>
cb v_67 (
k60 .normal (upd (upd (upd (upd t 84 v_61) 85 v_63) 86 v_65) 87 v_67) h68) (
k60 (.exit 6) (upd (upd (upd (upd t 84 v_61) 85 v_63) 86 v_65) 87 v_67) h68)

def J_precentorlaw15_ClockTells_2 (P : Program) (call : FuncId → List AVal → Heap → Res AVal) (fuel : Nat) (k : Kn (AVal)) (t : T) (h : Heap) : Res (AVal) :=
lt (sqK (J_precentorlaw15_ClockTells_3 P call fuel k) k) fun k36 =>
arb (.val (.int .i64 0) h) call fun i_37 h38 =>
lt (blkK 6 k36) fun k39 =>
(loopN (L_precentorlaw15_ClockTells_4 P call fuel) fuel (upd t 14 i_37) h38).bind (lpK k39)

def J_precentorlaw15_ClockTells_1 (P : Program) (call : FuncId → List AVal → Heap → Res AVal) (fuel : Nat) (k : Kn (AVal)) (t : T) (h : Heap) : Res (AVal) :=
arb (.of (ldn 1 h (t 8)) h) call fun v_28 h29 =>
arb (.call F_clock_Clock_Own [v_28] h29) call fun v_30 h31 =>
arb (.val v_30 h31) call fun o_32 h33 =>
lt (sqK (J_precentorlaw15_ClockTells_2 P call fuel k) k) fun k69 =>
arb (.call F_precentorlaw15_known [] h33) call fun v_70 h71 =>
arb (.of (aUn P .not v_70) h71) call fun v_72 h73 =>
arb (.val v_72 h73) call fun v_74 h75 =>
gd (wantB v_74 false) (fun c => arb (.val o_32 h75) call c) h75 fun v_76 h77 =>
gd (wantB v_74 false) (fun c => arb (.of (lenL v_76) h77) call c) h77 fun v_78 h79 =>
gd (wantB v_74 false) (fun c => arb (.of (fadR 0 (t 9)) h79) call c) h79 fun v_80 h81 =>
gd (wantB v_74 false) (fun c => arb (.of (ld1 h81 v_80) h81) call c) h81 fun v_82 h83 =>
gd (wantB v_74 false) (fun c => arb (.of (lenL v_82) h83) call c) h83 fun v_84 h85 =>
gd (wantB v_74 false) (fun c => arb (.of (aBin P .neq 3 (.tmp 78) (.tmp 81) v_78 v_84) h85) call c) h85 fun v_86 h87 =>
arb (pkR v_74 (.bool true) v_86 h87) call fun v_88 h89 =>
cb v_88 (
arb (.val (.bool false) h89) call fun v_90 h91 =>
k69 .ret (upd (upd (upd (upd (upd (upd (upd (upd (upd (upd (upd (upd (upd (upd t 72 v_28) 73 v_30) 13 o_32) 74 v_70) 75 v_72) 76 v_74) 77 v_76) 78 v_78) 79 v_80) 80 v_82) 81 v_84) 82 v_86) 83 v_88) 4 v_90) h91) (
k69 .normal (upd (upd (upd (upd (upd (upd (upd (upd (upd (upd (upd (upd (upd t 72 v_28) 73 v_30) 13 o_32) 74 v_70) 75 v_72) 76 v_74) 77 v_76) 78 v_78) 79 v_80) 80 v_82) 81 v_84) 82 v_86) 83 v_88) h89)

def J_precentorlaw15_ClockTells_9 (P : Program) (call : FuncId → List AVal → Heap → Res AVal) (fuel : Nat) (k : Kn (Ex × T)) (t : T) (h : Heap) : Res (Ex × T) :=
arb (.val (t 10) h) call fun v_96 h97 =>
arb (.of (aBin P .add 3 (.tmp 43) (.const (.int .i64 1)) v_96 (.int .i64 1)) h97) call fun v_98 h99 =>
arb (.val v_98 h99) call fun i_100 h101 =>
k .normal (upd (upd (upd t 43 v_96) 44 v_98) 10 i_100) h101

def J_precentorlaw15_ClockTells_13 (P : Program) (call : FuncId → List AVal → Heap → Res AVal) (fuel : Nat) (k : Kn (Ex × T)) (t : T) (h : Heap) : Res (Ex × T) :=
arb (.val (t 12) h) call fun v_131 h132 =>
arb (.of (aBin P .add 3 (.tmp 63) (.const (.int .i64 1)) v_131 (.int .i64 1)) h132) call fun v_133 h134 =>
arb (.val v_133 h134) call fun k_135 h136 =>
k .normal (upd (upd (upd t 63 v_131) 64 v_133) 12 k_135) h136

def J_precentorlaw15_ClockTells_12 (P : Program) (call : FuncId → List AVal → Heap → Res AVal) (fuel : Nat) (k : Kn (Ex × T)) (t : T) (h : Heap) : Res (Ex × T) :=
lt (sqK (J_precentorlaw15_ClockTells_13 P call fuel k) k) fun k137 =>
lt (blkK 5 k137) fun k138 =>
obv (.of (ldn 1 h (t 8)) h) fun v_139 => ifb true <|
obv (.val (t 12) h) fun v_141 =>
arbE (.call F_clock_Clock_Next [v_139, v_141] h) call fun v_143 h144 => lt h144 fun g144 => ifb (true && true) <|
obv (.of (ldn 2 g144 (t 9)) g144) fun v_145 => ifb (isV v_145 (arVal (.of (ldn 2 h (t 9)) h)) && true) <|
obv (.val (t 12) g144) fun v_147 =>
arbE (.call F_precentorref9_Clock_Next [v_145, v_147] g144) call fun v_149 h150 => lt h150 fun g150 => ifb (true && true) <|
obv (.of (aBin P .neq 3 (.tmp 67) (.tmp 70) v_143 v_149) g150) fun v_151 =>
cb v_151 (
arb (.val (.bool false) g150) call fun v_153 h154 =>
k138 .ret (upd (upd (upd (upd (upd (upd (upd (upd t 65 v_139) 66 v_141) 67 v_143) 68 v_145) 69 v_147) 70 v_149) 71 v_151) 4 v_153) h154) (
k138 .normal (upd (upd (upd (upd (upd (upd (upd t 65 v_139) 66 v_141) 67 v_143) 68 v_145) 69 v_147) 70 v_149) 71 v_151) g150)

def L_precentorlaw15_ClockTells_11 (P : Program) (call : FuncId → List AVal → Heap → Res AVal) (fuel : Nat) (t : T) (h : Heap) : Res (Ex × T) :=
lt okK fun k =>
lt (sqK (J_precentorlaw15_ClockTells_12 P call fuel k) k) fun k155 =>
arb (.val (t 12) h) call fun v_156 h157 =>
arb (.of (aBin P .lss 3 (.tmp 61) (.const (.int .i64 16)) v_156 (.int .i64 16)) h157) call fun v_158 h159 =>
cb v_158 (
k155 .normal (upd (upd t 61 v_156) 62 v_158) h159) (
k155 (.exit 4) (upd (upd t 61 v_156) 62 v_158) h159)

def J_precentorlaw15_ClockTells_10 (P : Program) (call : FuncId → List AVal → Heap → Res AVal) (fuel : Nat) (k : Kn (Ex × T)) (t : T) (h : Heap) : Res (Ex × T) :=
arb (.of (ldn 1 h (t 8)) h) call fun v_112 h113 =>
arb (.val (t 11) h113) call fun v_114 h115 =>
arb (.call F_clock_Clock_Take [v_112, v_114] h115) call fun v_116 h117 =>
arb (stR 1 h117 (t 8) v_116) call fun v_118 h119 =>
arb (.of (ldn 2 h119 (t 9)) h119) call fun v_120 h121 =>
arb (.val (t 11) h121) call fun v_122 h123 =>
arb (.call F_precentorref9_Clock_Take [v_120, v_122] h123) call fun v_124 h125 =>
arb (stR 2 h125 (t 9) v_124) call fun v_126 h127 =>
arb (.val (.int .i64 (-1)) h127) call fun k_128 h129 =>
lt (blkK 4 k) fun k130 =>
(loopN (L_precentorlaw15_ClockTells_11 P call fuel) fuel (upd (upd (upd (upd (upd (upd (upd t 55 v_112) 56 v_114) 57 v_116) 58 v_120) 59 v_122) 60 v_124) 12 k_128) h129).bind (lpK k130)

def J_precentorlaw15_ClockTells_8 (P : Program) (call : FuncId → List AVal → Heap → Res AVal) (fuel : Nat) (k : Kn (Ex × T)) (t : T) (h : Heap) : Res (Ex × T) :=
lt (sqK (J_precentorlaw15_ClockTells_9 P call fuel k) k) fun k102 =>
lt (blkK 3 k102) fun k103 =>
arb (.val (t 7) h) call fun v_104 h105 =>
arb (.of (ldn 2 h105 (t 9)) h105) call fun v_106 h107 =>
arb (.call F_precentorlaw15_stamps [v_104, v_106] h107) call fun v_108 h109 =>
arb (.val v_108 h109) call fun s_110 h111 =>
lt (sqK (J_precentorlaw15_ClockTells_10 P call fuel k103) k103) fun k160 =>
obv (.of (ldn 1 h111 (t 8)) h111) fun v_161 => ifb true <|
obv (.val s_110 h111) fun v_163 =>
arbE (.call F_clock_Clock_Due [v_161, v_163] h111) call fun v_165 h166 => lt h166 fun g166 => ifb (true && true) <|
obv (.of (ldn 2 g166 (t 9)) g166) fun v_167 => ifb (isV v_167 (arVal (.of (ldn 2 h111 (t 9)) h111)) && true) <|
obv (.val s_110 g166) fun v_169 =>
arbE (.call F_precentorref9_Clock_Due [v_167, v_169] g166) call fun v_171 h172 => lt h172 fun g172 => ifb (true && true) <|
obv (.of (aBin P .neq 4 (.tmp 50) (.tmp 53) v_165 v_171) g172) fun v_173 =>
cb v_173 (
arb (.val (.bool false) g172) call fun v_175 h176 =>
k160 .ret (upd (upd (upd (upd (upd (upd (upd (upd (upd (upd (upd (upd t 45 v_104) 46 v_106) 47 v_108) 11 s_110) 48 v_161) 49 v_163) 50 v_165) 51 v_167) 52 v_169) 53 v_171) 54 v_173) 4 v_175) h176) (
k160 .normal (upd (upd (upd (upd (upd (upd (upd (upd (upd (upd (upd t 45 v_104) 46 v_106) 47 v_108) 11 s_110) 48 v_161) 49 v_163) 50 v_165) 51 v_167) 52 v_169) 53 v_171) 54 v_173) g172)

def L_precentorlaw15_ClockTells_7 (P : Program) (call : FuncId → List AVal → Heap → Res AVal) (fuel : Nat) (t : T) (h : Heap) : Res (Ex × T) :=
lt okK fun k =>
lt (sqK (J_precentorlaw15_ClockTells_8 P call fuel k) k) fun k177 =>
arb (.val (t 10) h) call fun v_178 h179 =>
arb (.of (aBin P .lss 3 (.tmp 41) (.const (.int .i64 10)) v_178 (.int .i64 10)) h179) call fun v_180 h181 =>
cb v_180 (
k177 .normal (upd (upd t 41 v_178) 42 v_180) h181) (
k177 (.exit 2) (upd (upd t 41 v_178) 42 v_180) h181)

def J_precentorlaw15_ClockTells_0 (P : Program) (call : FuncId → List AVal → Heap → Res AVal) (fuel : Nat) (k : Kn (AVal)) (t : T) (h : Heap) : Res (AVal) :=
arb (.val (t 1) h) call fun v_4 h5 =>
arb (.of (bldR [.nils, (.int .i64 0)] [(0, 1, v_4)]) h5) call fun v_6 h7 =>
arb (boxR v_6 h7) call fun v_8 h9 =>
arb (.val v_8 h9) call fun f_10 h11 =>
arb (.val (t 5) h11) call fun v_12 h13 =>
arb (.call F_clock_New [v_12] h13) call fun v_14 h15 =>
arb (newR [.nils] h15) call fun c_16 h17 =>
arb (stR 1 h17 c_16 v_14) call fun v_18 h19 =>
arb (.val (t 5) h19) call fun v_20 h21 =>
arb (.call F_precentorref9_NewClock [v_20] h21) call fun v_22 h23 =>
arb (newR [.nils, .nils] h23) call fun d_24 h25 =>
arb (stR 2 h25 d_24 v_22) call fun v_26 h27 =>
lt (sqK (J_precentorlaw15_ClockTells_1 P call fuel k) k) fun k92 =>
arb (.val (.int .i64 0) h27) call fun i_93 h94 =>
lt (blkK 2 k92) fun k95 =>
(loopN (L_precentorlaw15_ClockTells_7 P call fuel) fuel (upd (upd (upd (upd (upd (upd (upd (upd (upd (upd (upd t 34 v_4) 35 v_6) 36 v_8) 7 f_10) 37 v_12) 38 v_14) 8 c_16) 39 v_20) 40 v_22) 9 d_24) 10 i_93) h94).bind (lpK k95)

def J_precentorlaw15_ClockTells_16 (P : Program) (call : FuncId → List AVal → Heap → Res AVal) (fuel : Nat) (k : Kn (Ex × T)) (t : T) (h : Heap) : Res (Ex × T) :=
arb (.val (t 6) h) call fun v_186 h187 =>
arb (.of (aBin P .add 3 (.tmp 23) (.const (.int .i64 1)) v_186 (.int .i64 1)) h187) call fun v_188 h189 =>
arb (.val v_188 h189) call fun i_190 h191 =>
k .normal (upd (upd (upd t 23 v_186) 24 v_188) 6 i_190) h191

def J_precentorlaw15_ClockTells_15 (P : Program) (call : FuncId → List AVal → Heap → Res AVal) (fuel : Nat) (k : Kn (Ex × T)) (t : T) (h : Heap) : Res (Ex × T) :=
lt (sqK (J_precentorlaw15_ClockTells_16 P call fuel k) k) fun k192 =>
lt (blkK 1 k192) fun k193 =>
arb (.val (t 5) h) call fun v_194 h195 =>
arb (.val (t 0) h195) call fun v_196 h197 =>
arb (.val (t 6) h197) call fun v_198 h199 =>
arb (.of (ixsR 1 v_196 v_198) h199) call fun v_200 h201 =>
arb (.of (ld1 h201 v_200) h201) call fun v_202 h203 =>
arb (.call F_precentorhand_Pick [v_202, (.int .i64 14)] h203) call fun v_204 h205 =>
arb (.of (aBin P .sub 3 (.tmp 30) (.const (.int .i64 1)) v_204 (.int .i64 1)) h205) call fun v_206 h207 =>
arb (bslR 1 [(.int .i64 0)] 1 h207 [(0, 1, v_206)]) call fun v_208 h209 =>
arb (appR 1 8 h209 v_194 v_208) call fun v_210 h211 =>
arb (.val v_210 h211) call fun q_212 h213 =>
k193 .normal (upd (upd (upd (upd (upd (upd (upd (upd (upd (upd t 25 v_194) 26 v_196) 27 v_198) 28 v_200) 29 v_202) 30 v_204) 31 v_206) 32 v_208) 33 v_210) 5 q_212) h213

def L_precentorlaw15_ClockTells_14 (P : Program) (call : FuncId → List AVal → Heap → Res AVal) (fuel : Nat) (t : T) (h : Heap) : Res (Ex × T) :=
lt okK fun k =>
lt (sqK (J_precentorlaw15_ClockTells_15 P call fuel k) k) fun k214 =>
arb (.val (t 6) h) call fun v_215 h216 =>
arb (.val (t 0) h216) call fun v_217 h218 =>
arb (.of (lenL v_217) h218) call fun v_219 h220 =>
arb (.of (aBin P .lss 3 (.tmp 15) (.tmp 17) v_215 v_219) h220) call fun v_221 h222 =>
arb (.val v_221 h222) call fun v_223 h224 =>
gd (wantB v_223 true) (fun c => arb (.val (t 6) h224) call c) h224 fun v_225 h226 =>
gd (wantB v_223 true) (fun c => arb (.of (aBin P .lss 3 (.tmp 20) (.const (.int .i64 8)) v_225 (.int .i64 8)) h226) call c) h226 fun v_227 h228 =>
arb (pkR v_223 v_227 (.bool false) h228) call fun v_229 h230 =>
cb v_229 (
k214 .normal (upd (upd (upd (upd (upd (upd (upd (upd t 15 v_215) 16 v_217) 17 v_219) 18 v_221) 19 v_223) 20 v_225) 21 v_227) 22 v_229) h230) (
k214 (.exit 0) (upd (upd (upd (upd (upd (upd (upd (upd t 15 v_215) 16 v_217) 17 v_219) 18 v_221) 19 v_223) 20 v_225) 21 v_227) 22 v_229) h230)

def S_precentorlaw15_ClockTells (P : Program) (call : FuncId → List AVal → Heap → Res AVal) (fuel : Nat) (own_a0 l_a1 : AVal) (h : Heap) : Res AVal :=
lt (retK P [.tmp 4]) fun k =>
arb (.val (.bool false) h) call fun v_0 h1 =>
arb (.val .nils h1) call fun q_2 h3 =>
lt (sqK (J_precentorlaw15_ClockTells_0 P call fuel k) k) fun k182 =>
arb (.val (.int .i64 0) h3) call fun i_183 h184 =>
lt (blkK 0 k182) fun k185 =>
(loopN (L_precentorlaw15_ClockTells_14 P call fuel) fuel (upd (upd (upd (enterT [own_a0, l_a1]) 4 v_0) 5 q_2) 6 i_183) h184).bind (lpK k185)
theorem E_precentorlaw15_ClockTells (call : FuncId → List AVal → Heap → Res AVal) (fuel : Nat) (own_a0 l_a1 : AVal) (h : Heap) : bodyR Try.prog call fuel Try.f3 [own_a0, l_a1] h = S_precentorlaw15_ClockTells Try.prog call fuel own_a0 l_a1 h := by kernel_rfl
theorem R_precentorlaw15_ClockTells {X : XTab} (own_a0 l_a1 : AVal) {h : Heap} {Q : AVal → Heap → Prop} (hx : X F_precentorlaw15_ClockTells [own_a0, l_a1] = none) (q : Tells (fun m => S_precentorlaw15_ClockTells Try.prog (acallX Try.prog X m) m own_a0 l_a1 h) Q) :
    Tells (fun m => acallX Try.prog X m F_precentorlaw15_ClockTells [own_a0, l_a1] h) Q :=
  Tells.later (q.le fun m => (E_precentorlaw15_ClockTells (acallX Try.prog X m) m own_a0 l_a1 h) ▸ acallX_le Try.func3 hx m h)

/-! ### precentor/precentorlaw15.ClockValue -/
def J_precentorlaw15_ClockValue_2 (P : Program) (call : FuncId → List AVal → Heap → Res AVal) (fuel : Nat) (k : Kn (AVal)) (t : T) (h : Heap) : Res (AVal) :=
arb (.val (t 5) h) call fun v_36 h37 =>
arb (.call F_precentorhand_Feed_Stamps [v_36] h37) call fun v_38 h39 =>
arb (.val v_38 h39) call fun s_40 h41 =>
arb (.call F_precentorlaw15_known [] h41) call fun v_42 h43 =>
arb (.val v_42 h43) call fun v_44 h45 =>
gd (wantB v_44 true) (fun c => arb (.of (bldR [.nils] []) h45) call c) h45 fun v_46 h47 =>
gd (wantB v_44 true) (fun c => arb (.val s_40 h47) call c) h47 fun v_48 h49 =>
gd (wantB v_44 true) (fun c => arb (.call F_clock_Clock_Due [v_46, v_48] h49) call c) h49 fun v_50 h51 =>
arb (pkR v_44 v_50 (.bool false) h51) call fun v_52 h53 =>
arb (.val v_52 h53) call fun v_54 h55 =>
k .ret (upd (upd (upd (upd (upd (upd (upd (upd (upd (upd t 140 v_36) 141 v_38) 12 s_40) 142 v_42) 143 v_44) 144 v_46) 145 v_48) 146 v_50) 147 v_52) 4 v_54) h55

def J_precentorlaw15_ClockValue_1 (P : Program) (call : FuncId → List AVal → Heap → Res AVal) (fuel : Nat) (k : Kn (AVal)) (t : T) (h : Heap) : Res (AVal) :=
lt (sqK (J_precentorlaw15_ClockValue_2 P call fuel k) k) fun k56 =>
arb (.val (t 8) h) call fun v_57 h58 =>
arb (.of (lenL v_57) h58) call fun v_59 h60 =>
arb (.of (aBin P .gtr 3 (.tmp 127) (.const (.int .i64 0)) v_59 (.int .i64 0)) h60) call fun v_61 h62 =>
cb v_61 (
arb (.val (t 8) h62) call fun v_63 h64 =>
arb (.of (ixsR 1 v_63 (.int .i64 0)) h64) call fun v_65 h66 =>
arb (.of (ld1 h66 v_65) h66) call fun v_67 h68 =>
arb (.val v_67 h68) call fun was_69 h70 =>
arb (.val (t 8) h70) call fun v_71 h72 =>
arb (.of (ixsR 1 v_71 (.int .i64 0)) h72) call fun v_73 h74 =>
arb (stR 1 h74 v_73 (.int .i64 (-5))) call fun v_75 h76 =>
arb (.of (ldn 1 h76 (t 6)) h76) call fun v_77 h78 =>
arb (.call F_clock_Clock_Own [v_77] h78) call fun v_79 h80 =>
arb (.of (ixsR 1 v_79 (.int .i64 0)) h80) call fun v_81 h82 =>
arb (.of (ld1 h82 v_81) h82) call fun v_83 h84 =>
arb (.val was_69 h84) call fun v_85 h86 =>
arb (.of (aBin P .neq 3 (.tmp 137) (.tmp 138) v_83 v_85) h86) call fun v_87 h88 =>
cb v_87 (
arb (.val (.bool false) h88) call fun v_89 h90 =>
k56 .ret (upd (upd (upd (upd (upd (upd (upd (upd (upd (upd (upd (upd (upd (upd (upd (upd t 126 v_57) 127 v_59) 128 v_61) 129 v_63) 130 v_65) 131 v_67) 11 was_69) 132 v_71) 133 v_73) 134 v_77) 135 v_79) 136 v_81) 137 v_83) 138 v_85) 139 v_87) 4 v_89) h90) (
k56 .normal (upd (upd (upd (upd (upd (upd (upd (upd (upd (upd (upd (upd (upd (upd (upd t 126 v_57) 127 v_59) 128 v_61) 129 v_63) 130 v_65) 131 v_67) 11 was_69) 132 v_71) 133 v_73) 134 v_77) 135 v_79) 136 v_81) 137 v_83) 138 v_85) 139 v_87) h88)) (
k56 .normal (upd (upd (upd t 126 v_57) 127 v_59) 128 v_61) h62)

def J_precentorlaw15_ClockValue_5 (P : Program) (call : FuncId → List AVal → Heap → Res AVal) (fuel : Nat) (k : Kn (Ex × T)) (t : T) (h : Heap) : Res (Ex × T) :=
arb (.val (t 9) h) call fun v_95 h96 =>
arb (.of (aBin P .add 3 (.tmp 65) (.const (.int .i64 1)) v_95 (.int .i64 1)) h96) call fun v_97 h98 =>
arb (.val v_97 h98) call fun i_99 h100 =>
k .normal (upd (upd (upd t 65 v_95) 66 v_97) 9 i_99) h100

def J_precentorlaw15_ClockValue_6 (P : Program) (call : FuncId → List AVal → Heap → Res AVal) (fuel : Nat) (k : Kn (Ex × T)) (t : T) (h : Heap) : Res (Ex × T) :=
obv (.of (ldn 1 h (t 6)) h) fun v_103 => ifb true <|
obv (.val (t 8) h) fun v_105 =>
obv (.val (t 9) h) fun v_107 =>
obv (.of (ixsR 1 v_105 v_107) h) fun v_109 =>
obv (.of (ld1 h v_109) h) fun v_111 => ifb true <|
obv (.of (bldR [(.int .i64 0), (.int .i64 0)] [(0, 1, v_111), (1, 1, (.int .i64 1))]) h) fun v_113 =>
arbV (bslR 2 [(.int .i64 0), (.int .i64 0)] 1 h [(0, 2, v_113)]) fun v_115 h116 =>
arbE (.call F_clock_Clock_Take [v_103, v_115] h116) call fun v_117 h118 => lt h118 fun g118 => ifb (true && true) <|
arbV (newR [.nils] g118) fun d_119 h120 =>
arbE (stR 1 h120 d_119 v_117) call fun v_121 h122 => lt h122 fun g122 => ifb (true && true) <|
obv (.of (ldn 1 g122 d_119) g122) fun v_123 => ifb true <|
obv (.val (t 8) g122) fun v_125 =>
obv (.val (t 9) g122) fun v_127 =>
obv (.of (ixsR 1 v_125 v_127) g122) fun v_129 =>
obv (.of (ld1 g122 v_129) g122) fun v_131 => ifb true <|
arbE (.call F_clock_Clock_Next [v_123, v_131] g122) call fun v_133 h134 => lt h134 fun g134 => ifb (true && true) <|
obv (.of (aBin P .neq 3 (.tmp 94) (.const (.int .i64 2)) v_133 (.int .i64 2)) g134) fun v_135 =>
obv (.val v_135 g134) fun v_137 =>
gdr (wantB v_137 false) (fun c => obv (.of (ldn 1 g134 (t 6)) g134) fun v_139 => ifb true <|
c true v_139 g134) g134 fun w141 v_139 h141 =>
gdr (wantB v_137 false) (fun c => obv (.val (t 8) h141) fun v_142 =>
c true v_142 h141) h141 fun w144 v_142 h144 =>
gdr (wantB v_137 false) (fun c => obv (.val (t 9) h144) fun v_145 =>
c true v_145 h144) h144 fun w147 v_145 h147 =>
gdr (wantB v_137 false) (fun c => obv (.of (ixsR 1 v_142 v_145) h147) fun v_148 =>
c true v_148 h147) h147 fun w150 v_148 h150 =>
gdr (wantB v_137 false) (fun c => obv (.of (ld1 h150 v_148) h150) fun v_151 => ifb true <|
c true v_151 h150) h150 fun w153 v_151 h153 =>
gdr (wantB v_137 false) (fun c => arbE (.call F_clock_Clock_Next [v_139, v_151] h153) call fun v_154 h155 => lt h155 fun g155 => ifb (true && true) <|
c true v_154 g155) h153 fun w156 v_154 h156 =>
gdr (wantB v_137 false) (fun c => obv (.of (aBin P .neq 3 (.tmp 102) (.const (.int .i64 1)) v_154 (.int .i64 1)) h156) fun v_157 =>
c true v_157 h156) h156 fun w159 v_157 h159 =>
obv (pkR v_137 (.bool true) v_157 h159) fun v_160 =>
obv (.val v_160 h159) fun v_162 =>
gdr (wantB v_162 false) (fun c => obv (.of (ldn 1 h159 (t 6)) h159) fun v_164 => ifb true <|
c true v_164 h159) h159 fun w166 v_164 h166 =>
gdr (wantB v_162 false) (fun c => obv (.val (t 8) h166) fun v_167 =>
c true v_167 h166) h166 fun w169 v_167 h169 =>
gdr (wantB v_162 false) (fun c => obv (.val (t 9) h169) fun v_170 =>
c true v_170 h169) h169 fun w172 v_170 h172 =>
gdr (wantB v_162 false) (fun c => obv (.of (ixsR 1 v_167 v_170) h172) fun v_173 =>
c true v_173 h172) h172 fun w175 v_173 h175 =>
gdr (wantB v_162 false) (fun c => obv (.of (ld1 h175 v_173) h175) fun v_176 => ifb true <|
c true v_176 h175) h175 fun w178 v_176 h178 =>
gdr (wantB v_162 false) (fun c => obv (.of (bldR [(.int .i64 0), (.int .i64 0)] [(0, 1, v_176), (1, 1, (.int .i64 1))]) h178) fun v_179 =>
c true v_179 h178) h178 fun w181 v_179 h181 =>
gdr (wantB v_162 false) (fun c => arbV (bslR 2 [(.int .i64 0), (.int .i64 0)] 1 h181 [(0, 2, v_179)]) fun v_182 h183 =>
c true v_182 h183) h181 fun w184 v_182 h184 =>
gdr (wantB v_162 false) (fun c => arbE (.call F_clock_Clock_Due [v_164, v_182] h184) call fun v_185 h186 => lt h186 fun g186 => ifb (true && true) <|
c true v_185 g186) h184 fun w187 v_185 h187 =>
gdr (wantB v_162 false) (fun c => obv (.of (aUn P .not v_185) h187) fun v_188 =>
c true v_188 h187) h187 fun w190 v_188 h190 =>
obv (pkR v_162 (.bool true) v_188 h190) fun v_191 =>
obv (.val v_191 h190) fun v_193 =>
gdr (wantB v_193 false) (fun c => obv (.of (ldn 1 h190 d_119) h190) fun v_195 => ifb true <|
c true v_195 h190) h190 fun w197 v_195 h197 =>
gdr (wantB v_193 false) (fun c => obv (.val (t 8) h197) fun v_198 =>
c true v_198 h197) h197 fun w200 v_198 h200 =>
gdr (wantB v_193 false) (fun c => obv (.val (t 9) h200) fun v_201 =>
c true v_201 h200) h200 fun w203 v_201 h203 =>
gdr (wantB v_193 false) (fun c => obv (.of (ixsR 1 v_198 v_201) h203) fun v_204 =>
c true v_204 h203) h203 fun w206 v_204 h206 =>
gdr (wantB v_193 false) (fun c => obv (.of (ld1 h206 v_204) h206) fun v_207 => ifb true <|
c true v_207 h206) h206 fun w209 v_207 h209 =>
gdr (wantB v_193 false) (fun c => obv (.of (bldR [(.int .i64 0), (.int .i64 0)] [(0, 1, v_207), (1, 1, (.int .i64 1))]) h209) fun v_210 =>
c true v_210 h209) h209 fun w212 v_210 h212 =>
gdr (wantB v_193 false) (fun c => arbV (bslR 2 [(.int .i64 0), (.int .i64 0)] 1 h212 [(0, 2, v_210)]) fun v_213 h214 =>
c true v_213 h214) h212 fun w215 v_213 h215 =>
gdr (wantB v_193 false) (fun c => arbE (.call F_clock_Clock_Due [v_195, v_213] h215) call fun v_216 h217 => lt h217 fun g217 => ifb (true && true) <|
c true v_216 g217) h215 fun w218 v_216 h218 =>
obv (pkR v_193 (.bool true) v_216 h218) fun v_219 =>
cb v_219 (
arb (.val (.bool false) h218) call fun v_221 h222 =>
k .ret (upd (upd (upd (upd (upd (upd (upd (upd (upd (upd (upd (upd (upd (upd (upd (upd (upd (upd (upd (upd (upd (upd (upd (upd (upd (upd (upd (upd (upd (upd (upd (upd (upd (upd (upd (upd (upd (upd (upd (upd (upd (upd (upd (upd (upd (upd (upd t 81 v_103) 82 v_105) 83 v_107) 84 v_109) 85 v_111) 86 v_113) 87 v_115) 88 v_117) 10 d_119) 89 v_123) 90 v_125) 91 v_127) 92 v_129) 93 v_131) 94 v_133) 95 v_135) 96 v_137) 97 v_139) 98 v_142) 99 v_145) 100 v_148) 101 v_151) 102 v_154) 103 v_157) 104 v_160) 105 v_162) 106 v_164) 107 v_167) 108 v_170) 109 v_173) 110 v_176) 111 v_179) 112 v_182) 113 v_185) 114 v_188) 115 v_191) 116 v_193) 117 v_195) 118 v_198) 119 v_201) 120 v_204) 121 v_207) 122 v_210) 123 v_213) 124 v_216) 125 v_219) 4 v_221) h222) (
k .normal (upd (upd (upd (upd (upd (upd (upd (upd (upd (upd (upd (upd (upd (upd (upd (upd (upd (upd (upd (upd (upd (upd (upd (upd (upd (upd (upd (upd (upd (upd (upd (upd (upd (upd (upd (upd (upd (upd (upd (upd (upd (upd (upd (upd (upd (upd t 81 v_103) 82 v_105) 83 v_107) 84 v_109) 85 v_111) 86 v_113) 87 v_115) 88 v_117) 10 d_119) 89 v_123) 90 v_125) 91 v_127) 92 v_129) 93 v_131) 94 v_133) 95 v_135) 96 v_137) 97 v_139) 98 v_142) 99 v_145) 100 v_148) 101 v_151) 102 v_154) 103 v_157) 104 v_160) 105 v_162) 106 v_164) 107 v_167) 108 v_170) 109 v_173) 110 v_176) 111 v_179) 112 v_182) 113 v_185) 114 v_188) 115 v_191) 116 v_193) 117 v_195) 118 v_198) 119 v_201) 120 v_204) 121 v_207) 122 v_210) 123 v_213) 124 v_216) 125 v_219) h218)

def J_precentorlaw15_ClockValue_4 (P : Program) (call : FuncId → List AVal → Heap → Res AVal) (fuel : Nat) (k : Kn (Ex × T)) (t : T) (h : Heap) : Res (Ex × T) :=
lt (sqK (J_precentorlaw15_ClockValue_5 P call fuel k) k) fun k101 =>
lt (blkK 3 k101) fun k102 =>
lt (sqK (J_precentorlaw15_ClockValue_6 P call fuel k102) k102) fun k223 =>
obv (.val (t 9) h) fun v_224 =>
obv (.of (aBin P .gtr 3 (.tmp 67) (.const (.int .i64 0)) v_224 (.int .i64 0)) h) fun v_225 =>
obv (.val v_225 h) fun v_226 =>
gd (wantB v_226 true) (fun c => obv (.val (t 8) h) fun v => c v h) h fun v_227 h228 =>
gd (wantB v_226 true) (fun c => obv (.val (t 9) h228) fun v => c v h228) h228 fun v_229 h230 =>
gd (wantB v_226 true) (fun c => obv (.of (aBin P .sub 3 (.tmp 71) (.const (.int .i64 1)) v_229 (.int .i64 1)) h230) fun v => c v h230) h230 fun v_231 h232 =>
gd (wantB v_226 true) (fun c => obv (.of (ixsR 1 v_227 v_231) h232) fun v => c v h232) h232 fun v_233 h234 =>
gd (wantB v_226 true) (fun c => obv (.of (ld1 h234 v_233) h234) fun v => c v h234) h234 fun v_235 h236 =>
gd (wantB v_226 true) (fun c => obv (.val (t 8) h236) fun v => c v h236) h236 fun v_237 h238 =>
gd (wantB v_226 true) (fun c => obv (.val (t 9) h238) fun v => c v h238) h238 fun v_239 h240 =>
gd (wantB v_226 true) (fun c => obv (.of (ixsR 1 v_237 v_239) h240) fun v => c v h240) h240 fun v_241 h242 =>
gd (wantB v_226 true) (fun c => obv (.of (ld1 h242 v_241) h242) fun v => c v h242) h242 fun v_243 h244 =>
gd (wantB v_226 true) (fun c => obv (.of (aBin P .geq 3 (.tmp 74) (.tmp 78) v_235 v_243) h244) fun v => c v h244) h244 fun v_245 h246 =>
obv (pkR v_226 v_245 (.bool false) h246) fun v_247 =>
cb v_247 (
arb (.val (.bool false) h246) call fun v_248 h249 =>
k223 .ret (upd (upd (upd (upd (upd (upd (upd (upd (upd (upd (upd (upd (upd (upd (upd t 67 v_224) 68 v_225) 69 v_226) 70 v_227) 71 v_229) 72 v_231) 73 v_233) 74 v_235) 75 v_237) 76 v_239) 77 v_241) 78 v_243) 79 v_245) 80 v_247) 4 v_248) h249) (
k223 .normal (upd (upd (upd (upd (upd (upd (upd (upd (upd (upd (upd (upd (upd (upd t 67 v_224) 68 v_225) 69 v_226) 70 v_227) 71 v_229) 72 v_231) 73 v_233) 74 v_235) 75 v_237) 76 v_239) 77 v_241) 78 v_243) 79 v_245) 80 v_247) h246)

def L_precentorlaw15_ClockValue_3 (P : Program) (call : FuncId → List AVal → Heap → Res AVal) (fuel : Nat) (t : T) (h : Heap) : Res (Ex × T) :=
lt okK fun k =>
lt (sqK (J_precentorlaw15_ClockValue_4 P call fuel k) k) fun k250 =>
arb (.val (t 9) h) call fun v_251 h252 =>
arb (.val (t 8) h252) call fun v_253 h254 =>
arb (.of (lenL v_253) h254) call fun v_255 h256 =>
arb (.of (aBin P .lss 3 (.tmp 61) (.tmp 63) v_251 v_255) h256) call fun v_257 h258 =>
cb v_257 (
k250 .normal (upd (upd (upd (upd t 61 v_251) 62 v_253) 63 v_255) 64 v_257) h258) (
k250 (.exit 2) (upd (upd (upd (upd t 61 v_251) 62 v_253) 63 v_255) 64 v_257) h258)

def J_precentorlaw15_ClockValue_0 (P : Program) (call : FuncId → List AVal → Heap → Res AVal) (fuel : Nat) (k : Kn (AVal)) (t : T) (h : Heap) : Res (AVal) :=
arb (.of (ldn 1 h (t 6)) h) call fun v_30 h31 =>
arb (.call F_clock_Clock_Own [v_30] h31) call fun v_32 h33 =>
arb (.val v_32 h33) call fun o_34 h35 =>
lt (sqK (J_precentorlaw15_ClockValue_1 P call fuel k) k) fun k91 =>
arb (.val (.int .i64 0) h35) call fun i_92 h93 =>
lt (blkK 2 k91) fun k94 =>
(loopN (L_precentorlaw15_ClockValue_3 P call fuel) fuel (upd (upd (upd (upd t 59 v_30) 60 v_32) 8 o_34) 9 i_92) h93).bind (lpK k94)

def J_precentorlaw15_ClockValue_9 (P : Program) (call : FuncId → List AVal → Heap → Res AVal) (fuel : Nat) (k : Kn (Ex × T)) (t : T) (h : Heap) : Res (Ex × T) :=
arb (.val (t 7) h) call fun v_263 h264 =>
arb (.of (aBin P .add 3 (.tmp 27) (.const (.int .i64 1)) v_263 (.int .i64 1)) h264) call fun v_265 h266 =>
arb (.val v_265 h266) call fun i_267 h268 =>
k .normal (upd (upd (upd t 27 v_263) 28 v_265) 7 i_267) h268

def J_precentorlaw15_ClockValue_8 (P : Program) (call : FuncId → List AVal → Heap → Res AVal) (fuel : Nat) (k : Kn (Ex × T)) (t : T) (h : Heap) : Res (Ex × T) :=
lt (sqK (J_precentorlaw15_ClockValue_9 P call fuel k) k) fun k269 =>
lt (blkK 1 k269) fun k270 =>
obv (.val (t 0) h) fun v_271 =>
obv (.val (t 7) h) fun v_273 =>
obv (.of (ixsR 1 v_271 v_273) h) fun v_275 =>
obv (.of (ld1 h v_275) h) fun v_277 => ifb true <|
obv (.of (aBin P .geq 3 (.tmp 32) (.const (.int .i64 0)) v_277 (.int .i64 0)) h) fun v_279 =>
obv (.val v_279 h) fun v_281 =>
gdr (wantB v_281 true) (fun c => obv (.of (ldn 1 h (t 6)) h) fun v_283 => ifb true <|
c true v_283 h) h fun w285 v_283 h285 =>
gdr (wantB v_281 true) (fun c => obv (.val (t 0) h285) fun v_286 =>
c true v_286 h285) h285 fun w288 v_286 h288 =>
gdr (wantB v_281 true) (fun c => obv (.val (t 7) h288) fun v_289 =>
c true v_289 h288) h288 fun w291 v_289 h291 =>
gdr (wantB v_281 true) (fun c => obv (.of (ixsR 1 v_286 v_289) h291) fun v_292 =>
c true v_292 h291) h291 fun w294 v_292 h294 =>
gdr (wantB v_281 true) (fun c => obv (.of (ld1 h294 v_292) h294) fun v_295 => ifb true <|
c true v_295 h294) h294 fun w297 v_295 h297 =>
gdr (wantB v_281 true) (fun c => arbE (.call F_clock_Clock_Next [v_283, v_295] h297) call fun v_298 h299 => lt h299 fun g299 => ifb (true && true) <|
c true v_298 g299) h297 fun w300 v_298 h300 =>
gdr (wantB v_281 true) (fun c => obv (.of (aBin P .neq 3 (.tmp 40) (.const (.int .i64 1)) v_298 (.int .i64 1)) h300) fun v_301 =>
c true v_301 h300) h300 fun w303 v_301 h303 =>
obv (pkR v_281 v_301 (.bool false) h303) fun v_304 =>
obv (.val v_304 h303) fun v_306 =>
gdr (wantB v_306 false) (fun c => obv (.val (t 0) h303) fun v_308 =>
c true v_308 h303) h303 fun w310 v_308 h310 =>
gdr (wantB v_306 false) (fun c => obv (.val (t 7) h310) fun v_311 =>
c true v_311 h310) h310 fun w313 v_311 h313 =>
gdr (wantB v_306 false) (fun c => obv (.of (ixsR 1 v_308 v_311) h313) fun v_314 =>
c true v_314 h313) h313 fun w316 v_314 h316 =>
gdr (wantB v_306 false) (fun c => obv (.of (ld1 h316 v_314) h316) fun v_317 => ifb true <|
c true v_317 h316) h316 fun w319 v_317 h319 =>
gdr (wantB v_306 false) (fun c => obv (.of (aBin P .lss 3 (.tmp 47) (.const (.int .i64 0)) v_317 (.int .i64 0)) h319) fun v_320 =>
c true v_320 h319) h319 fun w322 v_320 h322 =>
gdr (wantB v_306 false) (fun c => obv (.val v_320 h322) fun v_323 =>
c true v_323 h322) h322 fun w325 v_323 h325 =>
gdr (wantB v_323 true) (fun c => obv (.of (ldn 1 h325 (t 6)) h325) fun v_326 => ifb true <|
c true v_326 h325) h325 fun w328 v_326 h328 =>
gdr (wantB v_323 true) (fun c => obv (.val (t 0) h328) fun v_329 =>
c true v_329 h328) h328 fun w331 v_329 h331 =>
gdr (wantB v_323 true) (fun c => obv (.val (t 7) h331) fun v_332 =>
c true v_332 h331) h331 fun w334 v_332 h334 =>
gdr (wantB v_323 true) (fun c => obv (.of (ixsR 1 v_329 v_332) h334) fun v_335 =>
c true v_335 h334) h334 fun w337 v_335 h337 =>
gdr (wantB v_323 true) (fun c => obv (.of (ld1 h337 v_335) h337) fun v_338 => ifb true <|
c true v_338 h337) h337 fun w340 v_338 h340 =>
gdr (wantB v_323 true) (fun c => arbE (.call F_clock_Clock_Next [v_326, v_338] h340) call fun v_341 h342 => lt h342 fun g342 => ifb (true && true) <|
c true v_341 g342) h340 fun w343 v_341 h343 =>
gdr (wantB v_323 true) (fun c => obv (.of (aBin P .neq 3 (.tmp 55) (.const (.int .i64 0)) v_341 (.int .i64 0)) h343) fun v_344 =>
c true v_344 h343) h343 fun w346 v_344 h346 =>
gdr (wantB v_306 false) (fun c => obv (pkR v_323 v_344 (.bool false) h346) fun v_347 =>
c true v_347 h346) h346 fun w349 v_347 h349 =>
obv (pkR v_306 (.bool true) v_347 h349) fun v_350 =>
cb v_350 (
arb (.val (.bool false) h349) call fun v_352 h353 =>
k270 .ret (upd (upd (upd (upd (upd (upd (upd (upd (upd (upd (upd (upd (upd (upd (upd (upd (upd (upd (upd (upd (upd (upd (upd (upd (upd (upd (upd (upd (upd (upd (upd t 29 v_271) 30 v_273) 31 v_275) 32 v_277) 33 v_279) 34 v_281) 35 v_283) 36 v_286) 37 v_289) 38 v_292) 39 v_295) 40 v_298) 41 v_301) 42 v_304) 43 v_306) 44 v_308) 45 v_311) 46 v_314) 47 v_317) 48 v_320) 49 v_323) 50 v_326) 51 v_329) 52 v_332) 53 v_335) 54 v_338) 55 v_341) 56 v_344) 57 v_347) 58 v_350) 4 v_352) h353) (
k270 .normal (upd (upd (upd (upd (upd (upd (upd (upd (upd (upd (upd (upd (upd (upd (upd (upd (upd (upd (upd (upd (upd (upd (upd (upd (upd (upd (upd (upd (upd (upd t 29 v_271) 30 v_273) 31 v_275) 32 v_277) 33 v_279) 34 v_281) 35 v_283) 36 v_286) 37 v_289) 38 v_292) 39 v_295) 40 v_298) 41 v_301) 42 v_304) 43 v_306) 44 v_308) 45 v_311) 46 v_314) 47 v_317) 48 v_320) 49 v_323) 50 v_326) 51 v_329) 52 v_332) 53 v_335) 54 v_338) 55 v_341) 56 v_344) 57 v_347) 58 v_350) h349)

def L_precentorlaw15_ClockValue_7 (P : Program) (call : FuncId → List AVal → Heap → Res AVal) (fuel : Nat) (t : T) (h : Heap) : Res (Ex × T) :=
lt okK fun k =>
lt (sqK (J_precentorlaw15_ClockValue_8 P call fuel k) k) fun k354 =>
arb (.val (t 7) h) call fun v_355 h356 =>
arb (.val (t 0) h356) call fun v_357 h358 =>
arb (.of (lenL v_357) h358) call fun v_359 h360 =>
arb (.of (aBin P .lss 3 (.tmp 23) (.tmp 25) v_355 v_359) h360) call fun v_361 h362 =>
cb v_361 (
k354 .normal (upd (upd (upd (upd t 23 v_355) 24 v_357) 25 v_359) 26 v_361) h362) (
k354 (.exit 0) (upd (upd (upd (upd t 23 v_355) 24 v_357) 25 v_359) 26 v_361) h362)

def S_precentorlaw15_ClockValue (P : Program) (call : FuncId → List AVal → Heap → Res AVal) (fuel : Nat) (own_a0 l_a1 : AVal) (h : Heap) : Res AVal :=
lt (retK P [.tmp 4]) fun k =>
arb (.val (.bool false) h) call fun v_0 h1 =>
arb (.val own_a0 h1) call fun v_2 h3 =>
arb (.val own_a0 h3) call fun v_4 h5 =>
arb (.of (lenL v_4) h5) call fun v_6 h7 =>
arb (.of (aPureB P (Builtin.min_ #[3, 3] 3) [v_6, (.int .i64 8)]) h7) call fun v_8 h9 =>
arb (.of (slcR 1 v_2 none (some v_8) none) h9) call fun v_10 h11 =>
arb (.val v_10 h11) call fun own_12 h13 =>
arb (.val l_a1 h13) call fun v_14 h15 =>
arb (.of (bldR [.nils, (.int .i64 0)] [(0, 1, v_14)]) h15) call fun v_16 h17 =>
arb (boxR v_16 h17) call fun v_18 h19 =>
arb (.val v_18 h19) call fun f_20 h21 =>
arb (.val own_12 h21) call fun v_22 h23 =>
arb (.call F_clock_New [v_22] h23) call fun v_24 h25 =>
arb (newR [.nils] h25) call fun c_26 h27 =>
arb (stR 1 h27 c_26 v_24) call fun v_28 h29 =>
lt (sqK (J_precentorlaw15_ClockValue_0 P call fuel k) k) fun k259 =>
arb (.val (.int .i64 0) h29) call fun i_260 h261 =>
lt (blkK 0 k259) fun k262 =>
(loopN (L_precentorlaw15_ClockValue_7 P call fuel) fuel (upd (upd (upd (upd (upd (upd (upd (upd (upd (upd (upd (upd (upd (upd (upd (enterT [own_a0, l_a1]) 4 v_0) 13 v_2) 14 v_4) 15 v_6) 16 v_8) 17 v_10) 0 own_12) 18 v_14) 19 v_16) 20 v_18) 5 f_20) 21 v_22) 22 v_24) 6 c_26) 7 i_260) h261).bind (lpK k262)
theorem E_precentorlaw15_ClockValue (call : FuncId → List AVal → Heap → Res AVal) (fuel : Nat) (own_a0 l_a1 : AVal) (h : Heap) : bodyR Try.prog call fuel Try.f4 [own_a0, l_a1] h = S_precentorlaw15_ClockValue Try.prog call fuel own_a0 l_a1 h := by kernel_rfl
theorem R_precentorlaw15_ClockValue {X : XTab} (own_a0 l_a1 : AVal) {h : Heap} {Q : AVal → Heap → Prop} (hx : X F_precentorlaw15_ClockValue [own_a0, l_a1] = none) (q : Tells (fun m => S_precentorlaw15_ClockValue Try.prog (acallX Try.prog X m) m own_a0 l_a1 h) Q) :
    Tells (fun m => acallX Try.prog X m F_precentorlaw15_ClockValue [own_a0, l_a1] h) Q :=
  Tells.later (q.le fun m => (E_precentorlaw15_ClockValue (acallX Try.prog X m) m own_a0 l_a1 h) ▸ acallX_le Try.func4 hx m h)

/-! ### precentor/precentorlaw15.ClockCounts -/
def J_precentorlaw15_ClockCounts_0 (P : Program) (call : FuncId → List AVal → Heap → Res AVal) (fuel : Nat) (k : Kn (AVal)) (t : T) (h : Heap) : Res (AVal) :=
arb (.call F_precentorlaw15_known [] h) call fun v_24 h25 =>
arb (.val v_24 h25) call fun v_26 h27 =>
k .ret (upd (upd t 125 v_24) 2 v_26) h27

def J_precentorlaw15_ClockCounts_3 (P : Program) (call : FuncId → List AVal → Heap → Res AVal) (fuel : Nat) (k : Kn (Ex × T)) (t : T) (h : Heap) : Res (Ex × T) :=
arb (.val (t 6) h) call fun v_32 h33 =>
arb (.of (aBin P .add 3 (.tmp 21) (.const (.int .i64 1)) v_32 (.int .i64 1)) h33) call fun v_34 h35 =>
arb (.val v_34 h35) call fun i_36 h37 =>
k .normal (upd (upd (upd t 21 v_32) 22 v_34) 6 i_36) h37

def J_precentorlaw15_ClockCounts_6 (P : Program) (call : FuncId → List AVal → Heap → Res AVal) (fuel : Nat) (k : Kn (Ex × T)) (t : T) (h : Heap) : Res (Ex × T) :=
obv (.of (ldn 1 h (t 4)) h) fun v_52 => ifb true <|
arbE (.call F_clock_Clock_Next [v_52, (.int .i64 1)] h) call fun v_54 h55 => lt h55 fun g55 => ifb (true && true) <|
obv (.of (ixpR 6 1 (t 5) (.int .i64 1)) g55) fun v_56 =>
obv (.of (ld1 g55 v_56) g55) fun v_58 => ifb (isV v_58 (arVal (.of (ld1 h v_56) h)) && true) <|
obv (.of (aBin P .add 3 (.tmp 101) (.const (.int .i64 1)) v_58 (.int .i64 1)) g55) fun v_60 =>
obv (.of (aBin P .neq 3 (.tmp 99) (.tmp 102) v_54 v_60) g55) fun v_62 =>
obv (.val v_62 g55) fun v_64 =>
gdr (wantB v_64 false) (fun c => obv (.of (ldn 1 g55 (t 4)) g55) fun v_66 => ifb true <|
c true v_66 g55) g55 fun w68 v_66 h68 =>
gdr (wantB v_64 false) (fun c => arbE (.call F_clock_Clock_Next [v_66, (.int .i64 3)] h68) call fun v_69 h70 => lt h70 fun g70 => ifb (true && true) <|
c true v_69 g70) h68 fun w71 v_69 h71 =>
gdr (wantB v_64 false) (fun c => obv (.of (ixpR 6 1 (t 5) (.int .i64 3)) h71) fun v_72 =>
c true v_72 h71) h71 fun w74 v_72 h74 =>
gdr (wantB v_64 false) (fun c => obv (.of (ld1 h74 v_72) h74) fun v_75 => ifb ((!w71 || isV v_75 (arVal (.of (ld1 h68 v_72) h68))) && true) <|
c true v_75 h74) h74 fun w77 v_75 h77 =>
gdr (wantB v_64 false) (fun c => obv (.of (aBin P .add 3 (.tmp 108) (.const (.int .i64 1)) v_75 (.int .i64 1)) h77) fun v_78 =>
c true v_78 h77) h77 fun w80 v_78 h80 =>
gdr (wantB v_64 false) (fun c => obv (.of (aBin P .neq 3 (.tmp 106) (.tmp 109) v_69 v_78) h80) fun v_81 =>
c true v_81 h80) h80 fun w83 v_81 h83 =>
obv (pkR v_64 (.bool true) v_81 h83) fun v_84 =>
obv (.val v_84 h83) fun v_86 =>
gdr (wantB v_86 false) (fun c => obv (.of (ldn 1 h83 (t 4)) h83) fun v_88 => ifb true <|
c true v_88 h83) h83 fun w90 v_88 h90 =>
gdr (wantB v_86 false) (fun c => arbE (.call F_clock_Clock_Next [v_88, (.int .i64 4)] h90) call fun v_91 h92 => lt h92 fun g92 => ifb (true && true) <|
c true v_91 g92) h90 fun w93 v_91 h93 =>
gdr (wantB v_86 false) (fun c => obv (.of (ixpR 6 1 (t 5) (.int .i64 4)) h93) fun v_94 =>
c true v_94 h93) h93 fun w96 v_94 h96 =>
gdr (wantB v_86 false) (fun c => obv (.of (ld1 h96 v_94) h96) fun v_97 => ifb ((!w93 || isV v_97 (arVal (.of (ld1 h90 v_94) h90))) && true) <|
c true v_97 h96) h96 fun w99 v_97 h99 =>
gdr (wantB v_86 false) (fun c => obv (.of (aBin P .add 3 (.tmp 116) (.const (.int .i64 1)) v_97 (.int .i64 1)) h99) fun v_100 =>
c true v_100 h99) h99 fun w102 v_100 h102 =>
gdr (wantB v_86 false) (fun c => obv (.of (aBin P .neq 3 (.tmp 114) (.tmp 117) v_91 v_100) h102) fun v_103 =>
c true v_103 h102) h102 fun w105 v_103 h105 =>
obv (pkR v_86 (.bool true) v_103 h105) fun v_106 =>
obv (.val v_106 h105) fun v_108 =>
gdr (wantB v_108 false) (fun c => obv (.of (ldn 1 h105 (t 4)) h105) fun v_110 => ifb true <|
c true v_110 h105) h105 fun w112 v_110 h112 =>
gdr (wantB v_108 false) (fun c => arbE (.call F_clock_Clock_Next [v_110, (.int .i64 0)] h112) call fun v_113 h114 => lt h114 fun g114 => ifb (true && true) <|
c true v_113 g114) h112 fun w115 v_113 h115 =>
gdr (wantB v_108 false) (fun c => obv (.of (aBin P .neq 3 (.tmp 122) (.const (.int .i64 0)) v_113 (.int .i64 0)) h115) fun v_116 =>
c true v_116 h115) h115 fun w118 v_116 h118 =>
obv (pkR v_108 (.bool true) v_116 h118) fun v_119 =>
cb v_119 (
arb (.val (.bool false) h118) call fun v_121 h122 =>
k .ret (upd (upd (upd (upd (upd (upd (upd (upd (upd (upd (upd (upd (upd (upd (upd (upd (upd (upd (upd (upd (upd (upd (upd (upd (upd (upd (upd (upd t 98 v_52) 99 v_54) 100 v_56) 101 v_58) 102 v_60) 103 v_62) 104 v_64) 105 v_66) 106 v_69) 107 v_72) 108 v_75) 109 v_78) 110 v_81) 111 v_84) 112 v_86) 113 v_88) 114 v_91) 115 v_94) 116 v_97) 117 v_100) 118 v_103) 119 v_106) 120 v_108) 121 v_110) 122 v_113) 123 v_116) 124 v_119) 2 v_121) h122) (
k .normal (upd (upd (upd (upd (upd (upd (upd (upd (upd (upd (upd (upd (upd (upd (upd (upd (upd (upd (upd (upd (upd (upd (upd (upd (upd (upd (upd t 98 v_52) 99 v_54) 100 v_56) 101 v_58) 102 v_60) 103 v_62) 104 v_64) 105 v_66) 106 v_69) 107 v_72) 108 v_75) 109 v_78) 110 v_81) 111 v_84) 112 v_86) 113 v_88) 114 v_91) 115 v_94) 116 v_97) 117 v_100) 118 v_103) 119 v_106) 120 v_108) 121 v_110) 122 v_113) 123 v_116) 124 v_119) h118)

def J_precentorlaw15_ClockCounts_9 (P : Program) (call : FuncId → List AVal → Heap → Res AVal) (fuel : Nat) (k : Kn (Ex × T)) (t : T) (h : Heap) : Res (Ex × T) :=
arb (.val (t 12) h) call fun v_127 h128 =>
arb (.of (aBin P .add 3 (.tmp 87) (.const (.int .i64 1)) v_127 (.int .i64 1)) h128) call fun v_129 h130 =>
arb (.val v_129 h130) call fun k_131 h132 =>
k .normal (upd (upd (upd t 87 v_127) 88 v_129) 12 k_131) h132

def J_precentorlaw15_ClockCounts_8 (P : Program) (call : FuncId → List AVal → Heap → Res AVal) (fuel : Nat) (k : Kn (Ex × T)) (t : T) (h : Heap) : Res (Ex × T) :=
lt (sqK (J_precentorlaw15_ClockCounts_9 P call fuel k) k) fun k133 =>
lt (blkK 5 k133) fun k134 =>
arb (.val (t 7) h) call fun v_135 h136 =>
arb (.val (t 12) h136) call fun v_137 h138 =>
arb (.of (ixsR 2 v_135 v_137) h138) call fun v_139 h140 =>
arb (.of (fadR 0 v_139) h140) call fun v_141 h142 =>
arb (.of (ld1 h142 v_141) h142) call fun v_143 h144 =>
arb (.of (ixpR 6 1 (t 5) v_143) h144) call fun v_145 h146 =>
arb (.of (ld1 h146 v_145) h146) call fun v_147 h148 =>
arb (.of (aBin P .add 3 (.tmp 95) (.const (.int .i64 1)) v_147 (.int .i64 1)) h148) call fun v_149 h150 =>
arb (.of (ixpR 6 1 (t 5) v_143) h150) call fun v_151 h152 =>
arb (stR 1 h152 v_151 v_149) call fun v_153 h154 =>
k134 .normal (upd (upd (upd (upd (upd (upd (upd (upd (upd t 89 v_135) 90 v_137) 91 v_139) 92 v_141) 93 v_143) 94 v_145) 95 v_147) 96 v_149) 97 v_151) h154

def L_precentorlaw15_ClockCounts_7 (P : Program) (call : FuncId → List AVal → Heap → Res AVal) (fuel : Nat) (t : T) (h : Heap) : Res (Ex × T) :=
lt okK fun k =>
lt (sqK (J_precentorlaw15_ClockCounts_8 P call fuel k) k) fun k155 =>
arb (.val (t 12) h) call fun v_156 h157 =>
arb (.val (t 7) h157) call fun v_158 h159 =>
arb (.of (lenL v_158) h159) call fun v_160 h161 =>
arb (.of (aBin P .lss 3 (.tmp 80) (.tmp 82) v_156 v_160) h161) call fun v_162 h163 =>
arb (.val v_162 h163) call fun v_164 h165 =>
gd (wantB v_164 true) (fun c => arb (.val (t 8) h165) call c) h165 fun v_166 h167 =>
arb (pkR v_164 v_166 (.bool false) h167) call fun v_168 h169 =>
cb v_168 (
k155 .normal (upd (upd (upd (upd (upd (upd (upd t 80 v_156) 81 v_158) 82 v_160) 83 v_162) 84 v_164) 85 v_166) 86 v_168) h169) (
k155 (.exit 4) (upd (upd (upd (upd (upd (upd (upd t 80 v_156) 81 v_158) 82 v_160) 83 v_162) 84 v_164) 85 v_166) 86 v_168) h169)

def J_precentorlaw15_ClockCounts_5 (P : Program) (call : FuncId → List AVal → Heap → Res AVal) (fuel : Nat) (k : Kn (Ex × T)) (t : T) (h : Heap) : Res (Ex × T) :=
arb (.of (ldn 1 h (t 4)) h) call fun v_44 h45 =>
arb (.val (t 7) h45) call fun v_46 h47 =>
arb (.call F_clock_Clock_Take [v_44, v_46] h47) call fun v_48 h49 =>
arb (stR 1 h49 (t 4) v_48) call fun v_50 h51 =>
lt (sqK (J_precentorlaw15_ClockCounts_6 P call fuel k) k) fun k123 =>
arb (.val (.int .i64 0) h51) call fun k_124 h125 =>
lt (blkK 4 k123) fun k126 =>
(loopN (L_precentorlaw15_ClockCounts_7 P call fuel) fuel (upd (upd (upd (upd t 77 v_44) 78 v_46) 79 v_48) 12 k_124) h125).bind (lpK k126)

def J_precentorlaw15_ClockCounts_4 (P : Program) (call : FuncId → List AVal → Heap → Res AVal) (fuel : Nat) (k : Kn (Ex × T)) (t : T) (h : Heap) : Res (Ex × T) :=
lt (sqK (J_precentorlaw15_ClockCounts_5 P call fuel k) k) fun k170 =>
arb (.of (ldn 1 h (t 4)) h) call fun v_171 h172 =>
arb (.val (t 7) h172) call fun v_173 h174 =>
arb (.call F_clock_Clock_Due [v_171, v_173] h174) call fun v_175 h176 =>
arb (.val (t 8) h176) call fun v_177 h178 =>
arb (.of (aBin P .neq 4 (.tmp 74) (.tmp 75) v_175 v_177) h178) call fun v_179 h180 =>
cb v_179 (
arb (.val (.bool false) h180) call fun v_181 h182 =>
k170 .ret (upd (upd (upd (upd (upd (upd t 72 v_171) 73 v_173) 74 v_175) 75 v_177) 76 v_179) 2 v_181) h182) (
k170 .normal (upd (upd (upd (upd (upd t 72 v_171) 73 v_173) 74 v_175) 75 v_177) 76 v_179) h180)

def J_precentorlaw15_ClockCounts_12 (P : Program) (call : FuncId → List AVal → Heap → Res AVal) (fuel : Nat) (k : Kn (Ex × T)) (t : T) (h : Heap) : Res (Ex × T) :=
arb (.val (t 9) h) call fun v_187 h188 =>
arb (.of (aBin P .add 3 (.tmp 25) (.const (.int .i64 1)) v_187 (.int .i64 1)) h188) call fun v_189 h190 =>
arb (.val v_189 h190) call fun a_191 h192 =>
k .normal (upd (upd (upd t 25 v_187) 26 v_189) 9 a_191) h192

def J_precentorlaw15_ClockCounts_14 (P : Program) (call : FuncId → List AVal → Heap → Res AVal) (fuel : Nat) (k : Kn (Ex × T)) (t : T) (h : Heap) : Res (Ex × T) :=
arb (.val (t 8) h) call fun v_225 h226 =>
arb (.val v_225 h226) call fun v_227 h228 =>
gd (wantB v_227 true) (fun c => arb (.val (t 10) h228) call c) h228 fun v_229 h230 =>
gd (wantB v_227 true) (fun c => arb (.of (aUn P .not v_229) h230) call c) h230 fun v_231 h232 =>
gd (wantB v_227 true) (fun c => arb (.val v_231 h232) call c) h232 fun v_233 h234 =>
gd (wantB v_233 false) (fun c => arb (.val (t 11) h234) call c) h234 fun v_235 h236 =>
gd (wantB v_233 false) (fun c => arb (.val (t 9) h236) call c) h236 fun v_237 h238 =>
gd (wantB v_233 false) (fun c => arb (.of (ixpR 6 1 (t 5) v_237) h238) call c) h238 fun v_239 h240 =>
gd (wantB v_233 false) (fun c => arb (.of (ld1 h240 v_239) h240) call c) h240 fun v_241 h242 =>
gd (wantB v_233 false) (fun c => arb (.of (aBin P .add 3 (.tmp 61) (.const (.int .i64 1)) v_241 (.int .i64 1)) h242) call c) h242 fun v_243 h244 =>
gd (wantB v_233 false) (fun c => arb (.of (aBin P .eql 3 (.tmp 58) (.tmp 62) v_235 v_243) h244) call c) h244 fun v_245 h246 =>
gd (wantB v_227 true) (fun c => arb (pkR v_233 (.bool true) v_245 h246) call c) h246 fun v_247 h248 =>
arb (pkR v_227 v_247 (.bool false) h248) call fun v_249 h250 =>
arb (.val v_249 h250) call fun fine_251 h252 =>
arb (.val (t 7) h252) call fun v_253 h254 =>
arb (.val (t 9) h254) call fun v_255 h256 =>
arb (.val (t 11) h256) call fun v_257 h258 =>
arb (.of (bldR [(.int .i64 0), (.int .i64 0)] [(0, 1, v_255), (1, 1, v_257)]) h258) call fun v_259 h260 =>
arb (bslR 2 [(.int .i64 0), (.int .i64 0)] 1 h260 [(0, 2, v_259)]) call fun v_261 h262 =>
arb (appR 2 16 h262 v_253 v_261) call fun v_263 h264 =>
arb (.val v_263 h264) call fun s_265 h266 =>
k .normal (upd (upd (upd (upd (upd (upd (upd (upd (upd (upd (upd (upd (upd (upd (upd (upd (upd (upd (upd (upd (upd t 53 v_225) 54 v_227) 55 v_229) 56 v_231) 57 v_233) 58 v_235) 59 v_237) 60 v_239) 61 v_241) 62 v_243) 63 v_245) 64 v_247) 65 v_249) 8 fine_251) 66 v_253) 67 v_255) 68 v_257) 69 v_259) 70 v_261) 71 v_263) 7 s_265) h266

def J_precentorlaw15_ClockCounts_13 (P : Program) (call : FuncId → List AVal → Heap → Res AVal) (fuel : Nat) (k : Kn (Ex × T)) (t : T) (h : Heap) : Res (Ex × T) :=
arb (.val (t 9) h) call fun v_195 h196 =>
arb (.of (aBin P .eql 3 (.tmp 30) (.const (.int .i64 1)) v_195 (.int .i64 1)) h196) call fun v_197 h198 =>
arb (.val v_197 h198) call fun v_199 h200 =>
gd (wantB v_199 false) (fun c => arb (.val (t 9) h200) call c) h200 fun v_201 h202 =>
gd (wantB v_199 false) (fun c => arb (.of (aBin P .eql 3 (.tmp 33) (.const (.int .i64 3)) v_201 (.int .i64 3)) h202) call c) h202 fun v_203 h204 =>
arb (pkR v_199 (.bool true) v_203 h204) call fun v_205 h206 =>
arb (.val v_205 h206) call fun v_207 h208 =>
gd (wantB v_207 false) (fun c => arb (.val (t 9) h208) call c) h208 fun v_209 h210 =>
gd (wantB v_207 false) (fun c => arb (.of (aBin P .eql 3 (.tmp 37) (.const (.int .i64 4)) v_209 (.int .i64 4)) h210) call c) h210 fun v_211 h212 =>
arb (pkR v_207 (.bool true) v_211 h212) call fun v_213 h214 =>
arb (.val v_213 h214) call fun own_215 h216 =>
arb (.val (t 3) h216) call fun v_217 h218 =>
arb (.call F_precentorhand_Feed_Next [v_217, (.int .i64 9)] h218) call fun v_219 h220 =>
arb (.of (aBin P .add 3 (.const (.int .i64 1)) (.tmp 41) (.int .i64 1) v_219) h220) call fun v_221 h222 =>
arb (.val v_221 h222) call fun n_223 h224 =>
lt (sqK (J_precentorlaw15_ClockCounts_14 P call fuel k) k) fun k267 =>
arb (.val own_215 h224) call fun v_268 h269 =>
arb (.val v_268 h269) call fun v_270 h271 =>
gd (wantB v_270 true) (fun c => arb (.val (t 3) h271) call c) h271 fun v_272 h273 =>
gd (wantB v_270 true) (fun c => arb (.call F_precentorhand_Feed_Next [v_272, (.int .i64 8)] h273) call c) h273 fun v_274 h275 =>
gd (wantB v_270 true) (fun c => arb (.of (aBin P .gtr 3 (.tmp 46) (.const (.int .i64 0)) v_274 (.int .i64 0)) h275) call c) h275 fun v_276 h277 =>
arb (pkR v_270 v_276 (.bool false) h277) call fun v_278 h279 =>
cb v_278 (
arb (.val (t 9) h279) call fun v_280 h281 =>
arb (.of (ixpR 6 1 (t 5) v_280) h281) call fun v_282 h283 =>
arb (.of (ld1 h283 v_282) h283) call fun v_284 h285 =>
arb (.of (aBin P .add 3 (.tmp 51) (.const (.int .i64 1)) v_284 (.int .i64 1)) h285) call fun v_286 h287 =>
arb (.val v_286 h287) call fun n_288 h289 =>
k267 .normal (upd (upd (upd (upd (upd (upd (upd (upd (upd (upd (upd (upd (upd (upd (upd (upd (upd (upd (upd (upd (upd (upd (upd (upd (upd (upd t 30 v_195) 31 v_197) 32 v_199) 33 v_201) 34 v_203) 35 v_205) 36 v_207) 37 v_209) 38 v_211) 39 v_213) 10 own_215) 40 v_217) 41 v_219) 42 v_221) 11 n_223) 43 v_268) 44 v_270) 45 v_272) 46 v_274) 47 v_276) 48 v_278) 49 v_280) 50 v_282) 51 v_284) 52 v_286) 11 n_288) h289) (
k267 .normal (upd (upd (upd (upd (upd (upd (upd (upd (upd (upd (upd (upd (upd (upd (upd (upd (upd (upd (upd (upd (upd t 30 v_195) 31 v_197) 32 v_199) 33 v_201) 34 v_203) 35 v_205) 36 v_207) 37 v_209) 38 v_211) 39 v_213) 10 own_215) 40 v_217) 41 v_219) 42 v_221) 11 n_223) 43 v_268) 44 v_270) 45 v_272) 46 v_274) 47 v_276) 48 v_278) h279)

def J_precentorlaw15_ClockCounts_11 (P : Program) (call : FuncId → List AVal → Heap → Res AVal) (fuel : Nat) (k : Kn (Ex × T)) (t : T) (h : Heap) : Res (Ex × T) :=
lt (sqK (J_precentorlaw15_ClockCounts_12 P call fuel k) k) fun k193 =>
lt (blkK 3 k193) fun k194 =>
lt (sqK (J_precentorlaw15_ClockCounts_13 P call fuel k194) k194) fun k290 =>
arb (.val (t 3) h) call fun v_291 h292 =>
arb (.call F_precentorhand_Feed_Next [v_291, (.int .i64 3)] h292) call fun v_293 h294 =>
arb (.of (aBin P .gtr 3 (.tmp 28) (.const (.int .i64 0)) v_293 (.int .i64 0)) h294) call fun v_295 h296 =>
cb v_295 (
k290 (.exit 3) (upd (upd (upd t 27 v_291) 28 v_293) 29 v_295) h296) (
k290 .normal (upd (upd (upd t 27 v_291) 28 v_293) 29 v_295) h296)

def L_precentorlaw15_ClockCounts_10 (P : Program) (call : FuncId → List AVal → Heap → Res AVal) (fuel : Nat) (t : T) (h : Heap) : Res (Ex × T) :=
lt okK fun k =>
lt (sqK (J_precentorlaw15_ClockCounts_11 P call fuel k) k) fun k297 =>
arb (.val (t 9) h) call fun v_298 h299 =>
arb (.of (aBin P .lss 3 (.tmp 23) (.const (.int .i64 6)) v_298 (.int .i64 6)) h299) call fun v_300 h301 =>
cb v_300 (
k297 .normal (upd (upd t 23 v_298) 24 v_300) h301) (
k297 (.exit 2) (upd (upd t 23 v_298) 24 v_300) h301)

def J_precentorlaw15_ClockCounts_2 (P : Program) (call : FuncId → List AVal → Heap → Res AVal) (fuel : Nat) (k : Kn (Ex × T)) (t : T) (h : Heap) : Res (Ex × T) :=
lt (sqK (J_precentorlaw15_ClockCounts_3 P call fuel k) k) fun k38 =>
lt (blkK 1 k38) fun k39 =>
arb (.val .nils h) call fun s_40 h41 =>
arb (.val (.bool true) h41) call fun fine_42 h43 =>
lt (sqK (J_precentorlaw15_ClockCounts_4 P call fuel k39) k39) fun k183 =>
arb (.val (.int .i64 0) h43) call fun a_184 h185 =>
lt (blkK 2 k183) fun k186 =>
(loopN (L_precentorlaw15_ClockCounts_10 P call fuel) fuel (upd (upd (upd t 7 s_40) 8 fine_42) 9 a_184) h185).bind (lpK k186)

def L_precentorlaw15_ClockCounts_1 (P : Program) (call : FuncId → List AVal → Heap → Res AVal) (fuel : Nat) (t : T) (h : Heap) : Res (Ex × T) :=
lt okK fun k =>
lt (sqK (J_precentorlaw15_ClockCounts_2 P call fuel k) k) fun k302 =>
arb (.val (t 6) h) call fun v_303 h304 =>
arb (.of (aBin P .lss 3 (.tmp 19) (.const (.int .i64 20)) v_303 (.int .i64 20)) h304) call fun v_305 h306 =>
cb v_305 (
k302 .normal (upd (upd t 19 v_303) 20 v_305) h306) (
k302 (.exit 0) (upd (upd t 19 v_303) 20 v_305) h306)

def S_precentorlaw15_ClockCounts (P : Program) (call : FuncId → List AVal → Heap → Res AVal) (fuel : Nat) (l_a0 : AVal) (h : Heap) : Res AVal :=
lt (retK P [.tmp 2]) fun k =>
arb (.val (.bool false) h) call fun v_0 h1 =>
arb (.val l_a0 h1) call fun v_2 h3 =>
arb (.of (bldR [.nils, (.int .i64 0)] [(0, 1, v_2)]) h3) call fun v_4 h5 =>
arb (boxR v_4 h5) call fun v_6 h7 =>
arb (.val v_6 h7) call fun f_8 h9 =>
arb (bslR 1 [(.int .i64 0), (.int .i64 0), (.int .i64 0)] 3 h9 [(0, 1, (.int .i64 1)), (1, 1, (.int .i64 3)), (2, 1, (.int .i64 4))]) call fun v_10 h11 =>
arb (.call F_clock_New [v_10] h11) call fun v_12 h13 =>
arb (newR [.nils] h13) call fun c_14 h15 =>
arb (stR 1 h15 c_14 v_12) call fun v_16 h17 =>
arb (.of (bldR [(.int .i64 0), (.int .i64 0), (.int .i64 0), (.int .i64 0), (.int .i64 0), (.int .i64 0)] []) h17) call fun v_18 h19 =>
arb (newR [(.int .i64 0), (.int .i64 0), (.int .i64 0), (.int .i64 0), (.int .i64 0), (.int .i64 0)] h19) call fun had_20 h21 =>
arb (stR 6 h21 had_20 v_18) call fun v_22 h23 =>
lt (sqK (J_precentorlaw15_ClockCounts_0 P call fuel k) k) fun k28 =>
arb (.val (.int .i64 0) h23) call fun i_29 h30 =>
lt (blkK 0 k28) fun k31 =>
(loopN (L_precentorlaw15_ClockCounts_1 P call fuel) fuel (upd (upd (upd (upd (upd (upd (upd (upd (upd (upd (upd (enterT [l_a0]) 2 v_0) 13 v_2) 14 v_4) 15 v_6) 3 f_8) 16 v_10) 17 v_12) 4 c_14) 18 v_18) 5 had_20) 6 i_29) h30).bind (lpK k31)
theorem E_precentorlaw15_ClockCounts (call : FuncId → List AVal → Heap → Res AVal) (fuel : Nat) (l_a0 : AVal) (h : Heap) : bodyR Try.prog call fuel Try.f5 [l_a0] h = S_precentorlaw15_ClockCounts Try.prog call fuel l_a0 h := by kernel_rfl
theorem R_precentorlaw15_ClockCounts {X : XTab} (l_a0 : AVal) {h : Heap} {Q : AVal → Heap → Prop} (hx : X F_precentorlaw15_ClockCounts [l_a0] = none) (q : Tells (fun m => S_precentorlaw15_ClockCounts Try.prog (acallX Try.prog X m) m l_a0 h) Q) :
    Tells (fun m => acallX Try.prog X m F_precentorlaw15_ClockCounts [l_a0] h) Q :=
  Tells.later (q.le fun m => (E_precentorlaw15_ClockCounts (acallX Try.prog X m) m l_a0 h) ▸ acallX_le Try.func5 hx m h)

/-! ### precentor/precentorlaw15.stamps -/
def J_precentorlaw15_stamps_1 (P : Program) (call : FuncId → List AVal → Heap → Res AVal) (fuel : Nat) (k : Kn (AVal)) (t : T) (h : Heap) : Res (AVal) :=
arb (.val (t 5) h) call fun v_10 h11 =>
arb (.val v_10 h11) call fun v_12 h13 =>
k .ret (upd (upd t 53 v_10) 4 v_12) h13

def J_precentorlaw15_stamps_0 (P : Program) (call : FuncId → List AVal → Heap → Res AVal) (fuel : Nat) (k : Kn (AVal)) (t : T) (h : Heap) : Res (AVal) :=
lt (sqK (J_precentorlaw15_stamps_1 P call fuel k) k) fun k14 =>
arb (.val (t 5) h) call fun v_15 h16 =>
arb (.of (lenL v_15) h16) call fun v_17 h18 =>
arb (.of (aBin P .gtr 3 (.tmp 36) (.const (.int .i64 1)) v_17 (.int .i64 1)) h18) call fun v_19 h20 =>
arb (.val v_19 h20) call fun v_21 h22 =>
gd (wantB v_21 true) (fun c => arb (.val (t 0) h22) call c) h22 fun v_23 h24 =>
gd (wantB v_21 true) (fun c => arb (.call F_precentorhand_Feed_Next [v_23, (.int .i64 8)] h24) call c) h24 fun v_25 h26 =>
gd (wantB v_21 true) (fun c => arb (.of (aBin P .eql 3 (.tmp 40) (.const (.int .i64 0)) v_25 (.int .i64 0)) h26) call c) h26 fun v_27 h28 =>
arb (pkR v_21 v_27 (.bool false) h28) call fun v_29 h30 =>
cb v_29 (
obv (.val (t 5) h30) fun v_31 =>
obv (.val (t 5) h30) fun v_33 =>
obv (.val (t 5) h30) fun v_35 =>
obv (.of (ixsR 2 v_35 (.int .i64 1)) h30) fun v_37 =>
obv (.of (ldn 2 h30 v_37) h30) fun v_39 => ifb true <|
obv (.val (t 5) h30) fun v_41 =>
obv (.of (ixsR 2 v_41 (.int .i64 0)) h30) fun v_43 =>
obv (.of (ldn 2 h30 v_43) h30) fun v_45 => ifb true <|
obv (.of (ixsR 2 v_31 (.int .i64 0)) h30) fun v_47 =>
arbE (stR 2 h30 v_47 v_39) call fun v_49 h50 => lt h50 fun g50 => ifb (true && true) <|
obv (.of (ixsR 2 v_33 (.int .i64 1)) g50) fun v_51 =>
arbE (stR 2 g50 v_51 v_45) call fun v_53 h54 => lt h54 fun g54 => ifb (true && true) <|
k14 .normal (upd (upd (upd (upd (upd (upd (upd (upd (upd (upd (upd (upd (upd (upd (upd (upd (upd (upd t 35 v_15) 36 v_17) 37 v_19) 38 v_21) 39 v_23) 40 v_25) 41 v_27) 42 v_29) 43 v_31) 44 v_33) 45 v_35) 46 v_37) 47 v_39) 48 v_41) 49 v_43) 50 v_45) 51 v_47) 52 v_51) g54) (
k14 .normal (upd (upd (upd (upd (upd (upd (upd (upd t 35 v_15) 36 v_17) 37 v_19) 38 v_21) 39 v_23) 40 v_25) 41 v_27) 42 v_29) h30)

def J_precentorlaw15_stamps_4 (P : Program) (call : FuncId → List AVal → Heap → Res AVal) (fuel : Nat) (k : Kn (Ex × T)) (t : T) (h : Heap) : Res (Ex × T) :=
arb (.val (t 6) h) call fun v_59 h60 =>
arb (.of (aBin P .add 3 (.tmp 14) (.const (.int .i64 1)) v_59 (.int .i64 1)) h60) call fun v_61 h62 =>
arb (.val v_61 h62) call fun i_63 h64 =>
k .normal (upd (upd (upd t 14 v_59) 15 v_61) 6 i_63) h64

def J_precentorlaw15_stamps_3 (P : Program) (call : FuncId → List AVal → Heap → Res AVal) (fuel : Nat) (k : Kn (Ex × T)) (t : T) (h : Heap) : Res (Ex × T) :=
lt (sqK (J_precentorlaw15_stamps_4 P call fuel k) k) fun k65 =>
lt (blkK 1 k65) fun k66 =>
obv (.of (ldn 2 h (t 3)) h) fun v_67 => ifb true <|
obv (.val (t 5) h) fun v_69 =>
obv (.val (t 6) h) fun v_71 =>
obv (.of (ixsR 2 v_69 v_71) h) fun v_73 =>
obv (.of (fadR 0 v_73) h) fun v_75 =>
obv (.of (ld1 h v_75) h) fun v_77 => ifb true <|
arbE (.call F_precentorref9_Clock_Next [v_67, v_77] h) call fun v_79 h80 => lt h80 fun g80 => ifb (true && true) <|
obv (.val v_79 g80) fun n_81 =>
arb (.val n_81 g80) call fun v_83 h84 =>
arb (.of (aBin P .gtr 3 (.tmp 23) (.const (.int .i64 0)) v_83 (.int .i64 0)) h84) call fun v_85 h86 =>
arb (.val v_85 h86) call fun v_87 h88 =>
gd (wantB v_87 true) (fun c => arb (.val (t 0) h88) call c) h88 fun v_89 h90 =>
gd (wantB v_87 true) (fun c => arb (.call F_precentorhand_Feed_Next [v_89, (.int .i64 4)] h90) call c) h90 fun v_91 h92 =>
gd (wantB v_87 true) (fun c => arb (.of (aBin P .gtr 3 (.tmp 27) (.const (.int .i64 0)) v_91 (.int .i64 0)) h92) call c) h92 fun v_93 h94 =>
arb (pkR v_87 v_93 (.bool false) h94) call fun v_95 h96 =>
cb v_95 (
arb (.val (t 5) h96) call fun v_97 h98 =>
arb (.val (t 6) h98) call fun v_99 h100 =>
arb (.val n_81 h100) call fun v_101 h102 =>
arb (.of (ixsR 2 v_97 v_99) h102) call fun v_103 h104 =>
arb (.of (fadR 1 v_103) h104) call fun v_105 h106 =>
arb (stR 1 h106 v_105 v_101) call fun v_107 h108 =>
k66 .normal (upd (upd (upd (upd (upd (upd (upd (upd (upd (upd (upd (upd (upd (upd (upd (upd (upd (upd (upd (upd t 16 v_67) 17 v_69) 18 v_71) 19 v_73) 20 v_75) 21 v_77) 22 v_79) 7 n_81) 23 v_83) 24 v_85) 25 v_87) 26 v_89) 27 v_91) 28 v_93) 29 v_95) 30 v_97) 31 v_99) 32 v_101) 33 v_103) 34 v_105) h108) (
k66 .normal (upd (upd (upd (upd (upd (upd (upd (upd (upd (upd (upd (upd (upd (upd (upd t 16 v_67) 17 v_69) 18 v_71) 19 v_73) 20 v_75) 21 v_77) 22 v_79) 7 n_81) 23 v_83) 24 v_85) 25 v_87) 26 v_89) 27 v_91) 28 v_93) 29 v_95) h96)

def L_precentorlaw15_stamps_2 (P : Program) (call : FuncId → List AVal → Heap → Res AVal) (fuel : Nat) (t : T) (h : Heap) : Res (Ex × T) :=
lt okK fun k =>
lt (sqK (J_precentorlaw15_stamps_3 P call fuel k) k) fun k109 =>
arb (.val (t 6) h) call fun v_110 h111 =>
arb (.val (t 5) h111) call fun v_112 h113 =>
arb (.of (lenL v_112) h113) call fun v_114 h115 =>
arb (.of (aBin P .lss 3 (.tmp 10) (.tmp 12) v_110 v_114) h115) call fun v_116 h117 =>
cb v_116 (
k109 .normal (upd (upd (upd (upd t 10 v_110) 11 v_112) 12 v_114) 13 v_116) h117) (
k109 (.exit 0) (upd (upd (upd (upd t 10 v_110) 11 v_112) 12 v_114) 13 v_116) h117)

def S_precentorlaw15_stamps (P : Program) (call : FuncId → List AVal → Heap → Res AVal) (fuel : Nat) (f_a0 c_a1 : AVal) (h : Heap) : Res AVal :=
lt (retK P [.tmp 4]) fun k =>
arb (boxR c_a1 h) call fun c_0 h1 =>
arb (.val .nils h1) call fun v_2 h3 =>
arb (.val f_a0 h3) call fun v_4 h5 =>
arb (.call F_precentorhand_Feed_Stamps [v_4] h5) call fun v_6 h7 =>
arb (.val v_6 h7) call fun l_8 h9 =>
lt (sqK (J_precentorlaw15_stamps_0 P call fuel k) k) fun k55 =>
arb (.val (.int .i64 0) h9) call fun i_56 h57 =>
lt (blkK 0 k55) fun k58 =>
(loopN (L_precentorlaw15_stamps_2 P call fuel) fuel (upd (upd (upd (upd (upd (upd (enterT [f_a0, c_a1]) 3 c_0) 4 v_2) 8 v_4) 9 v_6) 5 l_8) 6 i_56) h57).bind (lpK k58)
theorem E_precentorlaw15_stamps (call : FuncId → List AVal → Heap → Res AVal) (fuel : Nat) (f_a0 c_a1 : AVal) (h : Heap) : bodyR Try.prog call fuel Try.f9 [f_a0, c_a1] h = S_precentorlaw15_stamps Try.prog call fuel f_a0 c_a1 h := by kernel_rfl
theorem R_precentorlaw15_stamps {X : XTab} (f_a0 c_a1 : AVal) {h : Heap} {Q : AVal → Heap → Prop} (hx : X F_precentorlaw15_stamps [f_a0, c_a1] = none) (q : Tells (fun m => S_precentorlaw15_stamps Try.prog (acallX Try.prog X m) m f_a0 c_a1 h) Q) :
    Tells (fun m => acallX Try.prog X m F_precentorlaw15_stamps [f_a0, c_a1] h) Q :=
  Tells.later (q.le fun m => (E_precentorlaw15_stamps (acallX Try.prog X m) m f_a0 c_a1 h) ▸ acallX_le Try.func9 hx m h)

/-! ### precentor/precentorlaw15.known -/

def S_precentorlaw15_known (P : Program) (call : FuncId → List AVal → Heap → Res AVal) (fuel : Nat) (h : Heap) : Res AVal :=
lt (retK P [.tmp 0]) fun k =>
arb (.val (.bool false) h) call fun v_0 h1 =>
arb (.call F_precentorlaw15_ClockKnown [] h1) call fun v_2 h3 =>
arb (.val v_2 h3) call fun v_4 h5 =>
k .ret (upd (upd (upd (enterT []) 0 v_0) 1 v_2) 0 v_4) h5
theorem E_precentorlaw15_known (call : FuncId → List AVal → Heap → Res AVal) (fuel : Nat) (h : Heap) : bodyR Try.prog call fuel Try.f17 [] h = S_precentorlaw15_known Try.prog call fuel  h := by kernel_rfl
theorem R_precentorlaw15_known {X : XTab} {h : Heap} {Q : AVal → Heap → Prop} (hx : X F_precentorlaw15_known [] = none) (q : Tells (fun m => S_precentorlaw15_known Try.prog (acallX Try.prog X m) m  h) Q) :
    Tells (fun m => acallX Try.prog X m F_precentorlaw15_known [] h) Q :=
  Tells.later (q.le fun m => (E_precentorlaw15_known (acallX Try.prog X m) m  h) ▸ acallX_le Try.func17 hx m h)


end Go.Proofs.Ytodccjbgomimjaa
