/-
  Functions of precentorlaw2 in the form of YtnlcjindeoaklaaABS (printed by a program of ours, gen.lean).
-/
import Derived.Test.YtnlcjindeoaklaaSIds
set_option linter.unusedVariables false
namespace Go.Proofs.Ytnlcjindeoaklaa
open Go.Ab
/-! ### precentor/precentorlaw2.FloatTells -/
def J_precentorlaw2_FloatTells_3 (P : Program) (call : FuncId → List AVal → Heap → Res AVal) (fuel : Nat) (k : Kn (AVal)) (t : T) (h : Heap) : Res (AVal) :=
arb (.val (t 0) h) call fun v_102 h103 =>
arb (.call F_float_Bits [v_102] h103) call fun v_104 h105 =>
arb (.val (t 0) h105) call fun v_106 h107 =>
arb (.call F_precentorref1_Bits [v_106] h107) call fun v_108 h109 =>
arb (.of (aBin P .eql 31 (.tmp 118) (.tmp 120) v_104 v_108) h109) call fun v_110 h111 =>
arb (.val v_110 h111) call fun v_112 h113 =>
gd (wantB v_112 true) (fun c => arb (.val (t 0) h113) call c) h113 fun v_114 h115 =>
gd (wantB v_112 true) (fun c => arb (.val (t 1) h115) call c) h115 fun v_116 h117 =>
gd (wantB v_112 true) (fun c => arb (.call F_float_Same [v_114, v_116] h117) call c) h117 fun v_118 h119 =>
gd (wantB v_112 true) (fun c => arb (.val (t 0) h119) call c) h119 fun v_120 h121 =>
gd (wantB v_112 true) (fun c => arb (.call F_precentorref1_Bits [v_120] h121) call c) h121 fun v_122 h123 =>
gd (wantB v_112 true) (fun c => arb (.val (t 1) h123) call c) h123 fun v_124 h125 =>
gd (wantB v_112 true) (fun c => arb (.call F_precentorref1_Bits [v_124] h125) call c) h125 fun v_126 h127 =>
gd (wantB v_112 true) (fun c => arb (.of (aBin P .eql 31 (.tmp 127) (.tmp 129) v_122 v_126) h127) call c) h127 fun v_128 h129 =>
gd (wantB v_112 true) (fun c => arb (.of (aBin P .eql 4 (.tmp 125) (.tmp 130) v_118 v_128) h129) call c) h129 fun v_130 h131 =>
arb (pkR v_112 v_130 (.bool false) h131) call fun v_132 h133 =>
arb (.val v_132 h133) call fun v_134 h135 =>
k .ret (upd (upd (upd (upd (upd (upd (upd (upd (upd (upd (upd (upd (upd (upd (upd (upd (upd t 117 v_102) 118 v_104) 119 v_106) 120 v_108) 121 v_110) 122 v_112) 123 v_114) 124 v_116) 125 v_118) 126 v_120) 127 v_122) 128 v_124) 129 v_126) 130 v_128) 131 v_130) 132 v_132) 10 v_134) h135

def J_precentorlaw2_FloatTells_2 (P : Program) (call : FuncId → List AVal → Heap → Res AVal) (fuel : Nat) (k : Kn (AVal)) (t : T) (h : Heap) : Res (AVal) :=
arb (.val (t 0) h) call fun v_10 h11 =>
arb (.val (t 1) h11) call fun v_12 h13 =>
arb (.call F_float_Cmp [v_10, v_12] h13) call fun v_14 h15 =>
arb (.val v_14 h15) call fun v_16 h17 =>
arb (extR v_16 0 h17) call fun v_18 h19 =>
arb (extR v_16 1 h19) call fun v_20 h21 =>
arb (.val v_18 h21) call fun c_22 h23 =>
arb (.val v_20 h23) call fun p_24 h25 =>
arb (.val (t 0) h25) call fun v_26 h27 =>
arb (.val (t 1) h27) call fun v_28 h29 =>
arb (.call F_precentorref1_Cmp [v_26, v_28] h29) call fun v_30 h31 =>
arb (.val v_30 h31) call fun v_32 h33 =>
arb (extR v_32 0 h33) call fun v_34 h35 =>
arb (extR v_32 1 h35) call fun v_36 h37 =>
arb (.val v_34 h37) call fun d_38 h39 =>
arb (.val v_36 h39) call fun q_40 h41 =>
arb (.val (t 2) h41) call fun v_42 h43 =>
arb (.val (t 1) h43) call fun v_44 h45 =>
arb (.call F_float_CmpInt [v_42, v_44] h45) call fun v_46 h47 =>
arb (.val v_46 h47) call fun v_48 h49 =>
arb (extR v_48 0 h49) call fun v_50 h51 =>
arb (extR v_48 1 h51) call fun v_52 h53 =>
arb (.val v_50 h53) call fun e_54 h55 =>
arb (.val v_52 h55) call fun r_56 h57 =>
arb (.val (t 2) h57) call fun v_58 h59 =>
arb (.val (t 1) h59) call fun v_60 h61 =>
arb (.call F_precentorref1_CmpInt [v_58, v_60] h61) call fun v_62 h63 =>
arb (.val v_62 h63) call fun v_64 h65 =>
arb (extR v_64 0 h65) call fun v_66 h67 =>
arb (extR v_64 1 h67) call fun v_68 h69 =>
arb (.val v_66 h69) call fun g_70 h71 =>
arb (.val v_68 h71) call fun s_72 h73 =>
arb (.val (t 3) h73) call fun v_74 h75 =>
arb (.call F_float_Of [v_74] h75) call fun v_76 h77 =>
arb (.val v_76 h77) call fun v_78 h79 =>
arb (extR v_78 0 h79) call fun v_80 h81 =>
arb (extR v_78 1 h81) call fun v_82 h83 =>
arb (.val v_80 h83) call fun x_84 h85 =>
arb (.val v_82 h85) call fun t_86 h87 =>
arb (.val (t 3) h87) call fun v_88 h89 =>
arb (.call F_precentorref1_Of [v_88] h89) call fun v_90 h91 =>
arb (.val v_90 h91) call fun v_92 h93 =>
arb (extR v_92 0 h93) call fun v_94 h95 =>
arb (extR v_92 1 h95) call fun v_96 h97 =>
arb (.val v_94 h97) call fun y_98 h99 =>
arb (.val v_96 h99) call fun u_100 h101 =>
lt (sqK (J_precentorlaw2_FloatTells_3 P call fuel k) k) fun k136 =>
arb (.call F_precentorlaw2_known [] h101) call fun v_137 h138 =>
arb (.of (aUn P .not v_137) h138) call fun v_139 h140 =>
arb (.val v_139 h140) call fun v_141 h142 =>
gd (wantB v_141 false) (fun c => arb (.val c_22 h142) call c) h142 fun v_143 h144 =>
gd (wantB v_141 false) (fun c => arb (.val d_38 h144) call c) h144 fun v_145 h146 =>
gd (wantB v_141 false) (fun c => arb (.of (aBin P .neq 3 (.tmp 81) (.tmp 82) v_143 v_145) h146) call c) h146 fun v_147 h148 =>
arb (pkR v_141 (.bool true) v_147 h148) call fun v_149 h150 =>
arb (.val v_149 h150) call fun v_151 h152 =>
gd (wantB v_151 false) (fun c => arb (.val p_24 h152) call c) h152 fun v_153 h154 =>
gd (wantB v_151 false) (fun c => arb (.val q_40 h154) call c) h154 fun v_155 h156 =>
gd (wantB v_151 false) (fun c => arb (.of (aBin P .neq 4 (.tmp 86) (.tmp 87) v_153 v_155) h156) call c) h156 fun v_157 h158 =>
arb (pkR v_151 (.bool true) v_157 h158) call fun v_159 h160 =>
arb (.val v_159 h160) call fun v_161 h162 =>
gd (wantB v_161 false) (fun c => arb (.val e_54 h162) call c) h162 fun v_163 h164 =>
gd (wantB v_161 false) (fun c => arb (.val g_70 h164) call c) h164 fun v_165 h166 =>
gd (wantB v_161 false) (fun c => arb (.of (aBin P .neq 3 (.tmp 91) (.tmp 92) v_163 v_165) h166) call c) h166 fun v_167 h168 =>
arb (pkR v_161 (.bool true) v_167 h168) call fun v_169 h170 =>
arb (.val v_169 h170) call fun v_171 h172 =>
gd (wantB v_171 false) (fun c => arb (.val r_56 h172) call c) h172 fun v_173 h174 =>
gd (wantB v_171 false) (fun c => arb (.val s_72 h174) call c) h174 fun v_175 h176 =>
gd (wantB v_171 false) (fun c => arb (.of (aBin P .neq 4 (.tmp 96) (.tmp 97) v_173 v_175) h176) call c) h176 fun v_177 h178 =>
arb (pkR v_171 (.bool true) v_177 h178) call fun v_179 h180 =>
arb (.val v_179 h180) call fun v_181 h182 =>
gd (wantB v_181 false) (fun c => arb (.val t_86 h182) call c) h182 fun v_183 h184 =>
gd (wantB v_181 false) (fun c => arb (.val u_100 h184) call c) h184 fun v_185 h186 =>
gd (wantB v_181 false) (fun c => arb (.of (aBin P .neq 4 (.tmp 101) (.tmp 102) v_183 v_185) h186) call c) h186 fun v_187 h188 =>
arb (pkR v_181 (.bool true) v_187 h188) call fun v_189 h190 =>
arb (.val v_189 h190) call fun v_191 h192 =>
gd (wantB v_191 false) (fun c => arb (.val x_84 h192) call c) h192 fun v_193 h194 =>
gd (wantB v_191 false) (fun c => arb (.of (aNat P F_math_Float64bits [v_193]) h194) call c) h194 fun v_195 h196 =>
gd (wantB v_191 false) (fun c => arb (.val y_98 h196) call c) h196 fun v_197 h198 =>
gd (wantB v_191 false) (fun c => arb (.of (aNat P F_math_Float64bits [v_197]) h198) call c) h198 fun v_199 h200 =>
gd (wantB v_191 false) (fun c => arb (.of (aBin P .neq 31 (.tmp 107) (.tmp 109) v_195 v_199) h200) call c) h200 fun v_201 h202 =>
gd (wantB v_191 false) (fun c => arb (.val v_201 h202) call c) h202 fun v_203 h204 =>
gd (wantB v_203 true) (fun c => arb (.val x_84 h204) call c) h204 fun v_205 h206 =>
gd (wantB v_203 true) (fun c => arb (.val x_84 h206) call c) h206 fun v_207 h208 =>
gd (wantB v_203 true) (fun c => arb (.of (aBin P .eql 22 (.tmp 112) (.tmp 113) v_205 v_207) h208) call c) h208 fun v_209 h210 =>
gd (wantB v_191 false) (fun c => arb (pkR v_203 v_209 (.bool false) h210) call c) h210 fun v_211 h212 =>
arb (pkR v_191 (.bool true) v_211 h212) call fun v_213 h214 =>
cb v_213 (
arb (.val (.bool false) h214) call fun v_215 h216 =>
k136 .ret (upd (upd (upd (upd (upd (upd (upd (upd (upd (upd (upd (upd (upd (upd (upd (upd (upd (upd (upd (upd (upd (upd (upd (upd (upd (upd (upd (upd (upd (upd (upd (upd (upd (upd (upd (upd (upd (upd (upd (upd (upd (upd (upd (upd (upd (upd (upd (upd (upd (upd (upd (upd (upd (upd (upd (upd (upd (upd (upd (upd (upd (upd (upd (upd (upd (upd (upd (upd (upd (upd (upd (upd (upd (upd (upd (upd (upd (upd (upd (upd (upd (upd (upd (upd (upd (upd t 45 v_10) 46 v_12) 47 v_14) 44 v_16) 48 v_18) 49 v_20) 12 c_22) 13 p_24) 51 v_26) 52 v_28) 53 v_30) 50 v_32) 54 v_34) 55 v_36) 14 d_38) 15 q_40) 57 v_42) 58 v_44) 59 v_46) 56 v_48) 60 v_50) 61 v_52) 16 e_54) 17 r_56) 63 v_58) 64 v_60) 65 v_62) 62 v_64) 66 v_66) 67 v_68) 18 g_70) 19 s_72) 69 v_74) 70 v_76) 68 v_78) 71 v_80) 72 v_82) 20 x_84) 21 t_86) 74 v_88) 75 v_90) 73 v_92) 76 v_94) 77 v_96) 22 y_98) 23 u_100) 78 v_137) 79 v_139) 80 v_141) 81 v_143) 82 v_145) 83 v_147) 84 v_149) 85 v_151) 86 v_153) 87 v_155) 88 v_157) 89 v_159) 90 v_161) 91 v_163) 92 v_165) 93 v_167) 94 v_169) 95 v_171) 96 v_173) 97 v_175) 98 v_177) 99 v_179) 100 v_181) 101 v_183) 102 v_185) 103 v_187) 104 v_189) 105 v_191) 106 v_193) 107 v_195) 108 v_197) 109 v_199) 110 v_201) 111 v_203) 112 v_205) 113 v_207) 114 v_209) 115 v_211) 116 v_213) 10 v_215) h216) (
k136 .normal (upd (upd (upd (upd (upd (upd (upd (upd (upd (upd (upd (upd (upd (upd (upd (upd (upd (upd (upd (upd (upd (upd (upd (upd (upd (upd (upd (upd (upd (upd (upd (upd (upd (upd (upd (upd (upd (upd (upd (upd (upd (upd (upd (upd (upd (upd (upd (upd (upd (upd (upd (upd (upd (upd (upd (upd (upd (upd (upd (upd (upd (upd (upd (upd (upd (upd (upd (upd (upd (upd (upd (upd (upd (upd (upd (upd (upd (upd (upd (upd (upd (upd (upd (upd (upd t 45 v_10) 46 v_12) 47 v_14) 44 v_16) 48 v_18) 49 v_20) 12 c_22) 13 p_24) 51 v_26) 52 v_28) 53 v_30) 50 v_32) 54 v_34) 55 v_36) 14 d_38) 15 q_40) 57 v_42) 58 v_44) 59 v_46) 56 v_48) 60 v_50) 61 v_52) 16 e_54) 17 r_56) 63 v_58) 64 v_60) 65 v_62) 62 v_64) 66 v_66) 67 v_68) 18 g_70) 19 s_72) 69 v_74) 70 v_76) 68 v_78) 71 v_80) 72 v_82) 20 x_84) 21 t_86) 74 v_88) 75 v_90) 73 v_92) 76 v_94) 77 v_96) 22 y_98) 23 u_100) 78 v_137) 79 v_139) 80 v_141) 81 v_143) 82 v_145) 83 v_147) 84 v_149) 85 v_151) 86 v_153) 87 v_155) 88 v_157) 89 v_159) 90 v_161) 91 v_163) 92 v_165) 93 v_167) 94 v_169) 95 v_171) 96 v_173) 97 v_175) 98 v_177) 99 v_179) 100 v_181) 101 v_183) 102 v_185) 103 v_187) 104 v_189) 105 v_191) 106 v_193) 107 v_195) 108 v_197) 109 v_199) 110 v_201) 111 v_203) 112 v_205) 113 v_207) 114 v_209) 115 v_211) 116 v_213) h214)

def J_precentorlaw2_FloatTells_1 (P : Program) (call : FuncId → List AVal → Heap → Res AVal) (fuel : Nat) (k : Kn (AVal)) (t : T) (h : Heap) : Res (AVal) :=
lt (sqK (J_precentorlaw2_FloatTells_2 P call fuel k) k) fun k217 =>
arb (.val (t 11) h) call fun v_218 h219 =>
arb (.call F_precentorhand_Feed_Next [v_218, (.int .i64 3)] h219) call fun v_220 h221 =>
arb (.of (aBin P .eql 3 (.tmp 40) (.const (.int .i64 0)) v_220 (.int .i64 0)) h221) call fun v_222 h223 =>
cb v_222 (
arb (.val (t 0) h223) call fun v_224 h225 =>
arb (.of (aNat P F_math_Float64bits [v_224]) h225) call fun v_226 h227 =>
arb (.val v_226 h227) call fun bits_228 h229 =>
k217 .normal (upd (upd (upd (upd (upd (upd t 39 v_218) 40 v_220) 41 v_222) 42 v_224) 43 v_226) 3 bits_228) h229) (
k217 .normal (upd (upd (upd t 39 v_218) 40 v_220) 41 v_222) h223)

def J_precentorlaw2_FloatTells_0 (P : Program) (call : FuncId → List AVal → Heap → Res AVal) (fuel : Nat) (k : Kn (AVal)) (t : T) (h : Heap) : Res (AVal) :=
lt (sqK (J_precentorlaw2_FloatTells_1 P call fuel k) k) fun k230 =>
arb (.val (t 11) h) call fun v_231 h232 =>
arb (.call F_precentorhand_Feed_Next [v_231, (.int .i64 3)] h232) call fun v_233 h234 =>
arb (.of (aBin P .eql 3 (.tmp 35) (.const (.int .i64 0)) v_233 (.int .i64 0)) h234) call fun v_235 h236 =>
cb v_235 (
arb (.val (t 2) h236) call fun v_237 h238 =>
arb (aConv P h238 2 22 v_237) call fun v_239 h240 =>
arb (.val v_239 h240) call fun b_241 h242 =>
k230 .normal (upd (upd (upd (upd (upd (upd t 34 v_231) 35 v_233) 36 v_235) 37 v_237) 38 v_239) 1 b_241) h242) (
k230 .normal (upd (upd (upd t 34 v_231) 35 v_233) 36 v_235) h236)

def S_precentorlaw2_FloatTells (P : Program) (call : FuncId → List AVal → Heap → Res AVal) (fuel : Nat) (a_a0 b_a1 n_a2 bits_a3 l_a4 : AVal) (h : Heap) : Res AVal :=
lt (retK P [.tmp 10]) fun k =>
arb (.val (.bool false) h) call fun v_0 h1 =>
arb (.val l_a4 h1) call fun v_2 h3 =>
arb (.of (bldR [.nils, (.int .i64 0)] [(0, 1, v_2)]) h3) call fun v_4 h5 =>
arb (boxR v_4 h5) call fun v_6 h7 =>
arb (.val v_6 h7) call fun f_8 h9 =>
lt (sqK (J_precentorlaw2_FloatTells_0 P call fuel k) k) fun k243 =>
arb (.val f_8 h9) call fun v_244 h245 =>
arb (.call F_precentorhand_Feed_Next [v_244, (.int .i64 2)] h245) call fun v_246 h247 =>
arb (.of (aBin P .eql 3 (.tmp 28) (.const (.int .i64 1)) v_246 (.int .i64 1)) h247) call fun v_248 h249 =>
cb v_248 (
arb (.val f_8 h249) call fun v_250 h251 =>
arb (.call F_precentorhand_Feed_Float [v_250] h251) call fun v_252 h253 =>
arb (.val f_8 h253) call fun v_254 h255 =>
arb (.call F_precentorhand_Feed_Float [v_254] h255) call fun v_256 h257 =>
arb (.val v_252 h257) call fun a_258 h259 =>
arb (.val v_256 h259) call fun b_260 h261 =>
k243 .normal (upd (upd (upd (upd (upd (upd (upd (upd (upd (upd (upd (upd (upd (upd (enterT [a_a0, b_a1, n_a2, bits_a3, l_a4]) 10 v_0) 24 v_2) 25 v_4) 26 v_6) 11 f_8) 27 v_244) 28 v_246) 29 v_248) 30 v_250) 31 v_252) 32 v_254) 33 v_256) 0 a_258) 1 b_260) h261) (
k243 .normal (upd (upd (upd (upd (upd (upd (upd (upd (enterT [a_a0, b_a1, n_a2, bits_a3, l_a4]) 10 v_0) 24 v_2) 25 v_4) 26 v_6) 11 f_8) 27 v_244) 28 v_246) 29 v_248) h249)
theorem E_precentorlaw2_FloatTells (call : FuncId → List AVal → Heap → Res AVal) (fuel : Nat) (a_a0 b_a1 n_a2 bits_a3 l_a4 : AVal) (h : Heap) : bodyR Try.prog call fuel Try.f4 [a_a0, b_a1, n_a2, bits_a3, l_a4] h = S_precentorlaw2_FloatTells Try.prog call fuel a_a0 b_a1 n_a2 bits_a3 l_a4 h := by kernel_rfl
theorem R_precentorlaw2_FloatTells {X : XTab} (a_a0 b_a1 n_a2 bits_a3 l_a4 : AVal) {h : Heap} {Q : AVal → Heap → Prop} (hx : X F_precentorlaw2_FloatTells [a_a0, b_a1, n_a2, bits_a3, l_a4] = none) (q : Tells (fun m => S_precentorlaw2_FloatTells Try.prog (acallX Try.prog X m) m a_a0 b_a1 n_a2 bits_a3 l_a4 h) Q) :
    Tells (fun m => acallX Try.prog X m F_precentorlaw2_FloatTells [a_a0, b_a1, n_a2, bits_a3, l_a4] h) Q :=
  Tells.later (q.le fun m => (E_precentorlaw2_FloatTells (acallX Try.prog X m) m a_a0 b_a1 n_a2 bits_a3 l_a4 h) ▸ acallX_le Try.func4 hx m h)

/-! ### precentor/precentorlaw2.FloatOrder -/
def J_precentorlaw2_FloatOrder_1 (P : Program) (call : FuncId → List AVal → Heap → Res AVal) (fuel : Nat) (k : Kn (AVal)) (t : T) (h : Heap) : Res (AVal) :=
arb (.val (t 1) h) call fun v_92 h93 =>
arb (.val (t 6) h93) call fun v_94 h95 =>
arb (.call F_float_CmpInt [v_92, v_94] h95) call fun v_96 h97 =>
arb (.val v_96 h97) call fun v_98 h99 =>
arb (extR v_98 0 h99) call fun v_100 h101 =>
arb (extR v_98 1 h101) call fun v_102 h103 =>
arb (.val v_100 h103) call fun u_104 h105 =>
arb (.val v_102 h105) call fun uk_106 h107 =>
arb (.val (t 1) h107) call fun v_108 h109 =>
arb (.val (t 7) h109) call fun v_110 h111 =>
arb (.call F_float_CmpInt [v_108, v_110] h111) call fun v_112 h113 =>
arb (.val v_112 h113) call fun v_114 h115 =>
arb (extR v_114 0 h115) call fun v_116 h117 =>
arb (extR v_114 1 h117) call fun v_118 h119 =>
arb (.val v_116 h119) call fun v_120 h121 =>
arb (.val v_118 h121) call fun vk_122 h123 =>
arb (.val uk_106 h123) call fun v_124 h125 =>
arb (.val (t 6) h125) call fun v_126 h127 =>
arb (.val (t 6) h127) call fun v_128 h129 =>
arb (.of (aBin P .eql 22 (.tmp 135) (.tmp 136) v_126 v_128) h129) call fun v_130 h131 =>
arb (.of (aBin P .eql 4 (.tmp 134) (.tmp 137) v_124 v_130) h131) call fun v_132 h133 =>
arb (.val v_132 h133) call fun v_134 h135 =>
gd (wantB v_134 true) (fun c => arb (.val vk_122 h135) call c) h135 fun v_136 h137 =>
gd (wantB v_134 true) (fun c => arb (.val (t 7) h137) call c) h137 fun v_138 h139 =>
gd (wantB v_134 true) (fun c => arb (.val (t 7) h139) call c) h139 fun v_140 h141 =>
gd (wantB v_134 true) (fun c => arb (.of (aBin P .eql 22 (.tmp 141) (.tmp 142) v_138 v_140) h141) call c) h141 fun v_142 h143 =>
gd (wantB v_134 true) (fun c => arb (.of (aBin P .eql 4 (.tmp 140) (.tmp 143) v_136 v_142) h143) call c) h143 fun v_144 h145 =>
arb (pkR v_134 v_144 (.bool false) h145) call fun v_146 h147 =>
arb (.val v_146 h147) call fun v_148 h149 =>
gd (wantB v_148 true) (fun c => arb (.val (t 10) h149) call c) h149 fun v_150 h151 =>
gd (wantB v_148 true) (fun c => arb (.of (aUn P .not v_150) h151) call c) h151 fun v_152 h153 =>
gd (wantB v_148 true) (fun c => arb (.val v_152 h153) call c) h153 fun v_154 h155 =>
gd (wantB v_154 false) (fun c => arb (.val (t 9) h155) call c) h155 fun v_156 h157 =>
gd (wantB v_154 false) (fun c => arb (.of (aBin P .gtr 3 (.tmp 150) (.const (.int .i64 0)) v_156 (.int .i64 0)) h157) call c) h157 fun v_158 h159 =>
gd (wantB v_148 true) (fun c => arb (pkR v_154 (.bool true) v_158 h159) call c) h159 fun v_160 h161 =>
gd (wantB v_148 true) (fun c => arb (.val v_160 h161) call c) h161 fun v_162 h163 =>
gd (wantB v_162 false) (fun c => arb (.val u_104 h163) call c) h163 fun v_164 h165 =>
gd (wantB v_162 false) (fun c => arb (.val v_120 h165) call c) h165 fun v_166 h167 =>
gd (wantB v_162 false) (fun c => arb (.of (aBin P .geq 3 (.tmp 154) (.tmp 155) v_164 v_166) h167) call c) h167 fun v_168 h169 =>
gd (wantB v_148 true) (fun c => arb (pkR v_162 (.bool true) v_168 h169) call c) h169 fun v_170 h171 =>
arb (pkR v_148 v_170 (.bool false) h171) call fun v_172 h173 =>
arb (.val v_172 h173) call fun v_174 h175 =>
gd (wantB v_174 true) (fun c => arb (.val (t 10) h175) call c) h175 fun v_176 h177 =>
gd (wantB v_174 true) (fun c => arb (.of (aUn P .not v_176) h177) call c) h177 fun v_178 h179 =>
gd (wantB v_174 true) (fun c => arb (.val v_178 h179) call c) h179 fun v_180 h181 =>
gd (wantB v_180 false) (fun c => arb (.val (t 9) h181) call c) h181 fun v_182 h183 =>
gd (wantB v_180 false) (fun c => arb (.of (aBin P .neq 3 (.tmp 163) (.const (.int .i64 0)) v_182 (.int .i64 0)) h183) call c) h183 fun v_184 h185 =>
gd (wantB v_174 true) (fun c => arb (pkR v_180 (.bool true) v_184 h185) call c) h185 fun v_186 h187 =>
gd (wantB v_174 true) (fun c => arb (.val v_186 h187) call c) h187 fun v_188 h189 =>
gd (wantB v_188 false) (fun c => arb (.val u_104 h189) call c) h189 fun v_190 h191 =>
gd (wantB v_188 false) (fun c => arb (.val v_120 h191) call c) h191 fun v_192 h193 =>
gd (wantB v_188 false) (fun c => arb (.of (aBin P .eql 3 (.tmp 167) (.tmp 168) v_190 v_192) h193) call c) h193 fun v_194 h195 =>
gd (wantB v_174 true) (fun c => arb (pkR v_188 (.bool true) v_194 h195) call c) h195 fun v_196 h197 =>
arb (pkR v_174 v_196 (.bool false) h197) call fun v_198 h199 =>
arb (.val v_198 h199) call fun v_200 h201 =>
k .ret (upd (upd (upd (upd (upd (upd (upd (upd (upd (upd (upd (upd (upd (upd (upd (upd (upd (upd (upd (upd (upd (upd (upd (upd (upd (upd (upd (upd (upd (upd (upd (upd (upd (upd (upd (upd (upd (upd (upd (upd (upd (upd (upd (upd (upd (upd (upd (upd (upd (upd (upd (upd (upd (upd (upd t 123 v_92) 124 v_94) 125 v_96) 122 v_98) 126 v_100) 127 v_102) 17 u_104) 18 uk_106) 129 v_108) 130 v_110) 131 v_112) 128 v_114) 132 v_116) 133 v_118) 19 v_120) 20 vk_122) 134 v_124) 135 v_126) 136 v_128) 137 v_130) 138 v_132) 139 v_134) 140 v_136) 141 v_138) 142 v_140) 143 v_142) 144 v_144) 145 v_146) 146 v_148) 147 v_150) 148 v_152) 149 v_154) 150 v_156) 151 v_158) 152 v_160) 153 v_162) 154 v_164) 155 v_166) 156 v_168) 157 v_170) 158 v_172) 159 v_174) 160 v_176) 161 v_178) 162 v_180) 163 v_182) 164 v_184) 165 v_186) 166 v_188) 167 v_190) 168 v_192) 169 v_194) 170 v_196) 171 v_198) 4 v_200) h201

def J_precentorlaw2_FloatOrder_0 (P : Program) (call : FuncId → List AVal → Heap → Res AVal) (fuel : Nat) (k : Kn (AVal)) (t : T) (h : Heap) : Res (AVal) :=
lt (sqK (J_precentorlaw2_FloatOrder_1 P call fuel k) k) fun k202 =>
arb (.val (t 10) h) call fun v_203 h204 =>
arb (.val v_203 h204) call fun v_205 h206 =>
gd (wantB v_205 true) (fun c => arb (.val (t 14) h206) call c) h206 fun v_207 h208 =>
arb (pkR v_205 v_207 (.bool false) h208) call fun v_209 h210 =>
arb (.val v_209 h210) call fun v_211 h212 =>
gd (wantB v_211 true) (fun c => arb (.val (t 9) h212) call c) h212 fun v_213 h214 =>
gd (wantB v_211 true) (fun c => arb (.of (aBin P .leq 3 (.tmp 108) (.const (.int .i64 0)) v_213 (.int .i64 0)) h214) call c) h214 fun v_215 h216 =>
arb (pkR v_211 v_215 (.bool false) h216) call fun v_217 h218 =>
arb (.val v_217 h218) call fun v_219 h220 =>
gd (wantB v_219 true) (fun c => arb (.val (t 13) h220) call c) h220 fun v_221 h222 =>
gd (wantB v_219 true) (fun c => arb (.of (aBin P .leq 3 (.tmp 112) (.const (.int .i64 0)) v_221 (.int .i64 0)) h222) call c) h222 fun v_223 h224 =>
arb (pkR v_219 v_223 (.bool false) h224) call fun v_225 h226 =>
arb (.val v_225 h226) call fun v_227 h228 =>
gd (wantB v_227 true) (fun c => arb (.val (t 15) h228) call c) h228 fun v_229 h230 =>
gd (wantB v_227 true) (fun c => arb (.val (t 9) h230) call c) h230 fun v_231 h232 =>
gd (wantB v_227 true) (fun c => arb (.val (t 13) h232) call c) h232 fun v_233 h234 =>
gd (wantB v_227 true) (fun c => arb (.of (aPureB P (Builtin.min_ #[3, 3] 3) [v_231, v_233]) h234) call c) h234 fun v_235 h236 =>
gd (wantB v_227 true) (fun c => arb (.of (aBin P .neq 3 (.tmp 116) (.tmp 119) v_229 v_235) h236) call c) h236 fun v_237 h238 =>
arb (pkR v_227 v_237 (.bool false) h238) call fun v_239 h240 =>
cb v_239 (
arb (.val (.bool false) h240) call fun v_241 h242 =>
k202 .ret (upd (upd (upd (upd (upd (upd (upd (upd (upd (upd (upd (upd (upd (upd (upd (upd (upd (upd (upd (upd t 103 v_203) 104 v_205) 105 v_207) 106 v_209) 107 v_211) 108 v_213) 109 v_215) 110 v_217) 111 v_219) 112 v_221) 113 v_223) 114 v_225) 115 v_227) 116 v_229) 117 v_231) 118 v_233) 119 v_235) 120 v_237) 121 v_239) 4 v_241) h242) (
k202 .normal (upd (upd (upd (upd (upd (upd (upd (upd (upd (upd (upd (upd (upd (upd (upd (upd (upd (upd (upd t 103 v_203) 104 v_205) 105 v_207) 106 v_209) 107 v_211) 108 v_213) 109 v_215) 110 v_217) 111 v_219) 112 v_221) 113 v_223) 114 v_225) 115 v_227) 116 v_229) 117 v_231) 118 v_233) 119 v_235) 120 v_237) 121 v_239) h240)

def S_precentorlaw2_FloatOrder (P : Program) (call : FuncId → List AVal → Heap → Res AVal) (fuel : Nat) (l_a0 n_a1 : AVal) (h : Heap) : Res AVal :=
lt (retK P [.tmp 4]) fun k =>
arb (.val (.bool false) h) call fun v_0 h1 =>
arb (.val l_a0 h1) call fun v_2 h3 =>
arb (.of (bldR [.nils, (.int .i64 0)] [(0, 1, v_2)]) h3) call fun v_4 h5 =>
arb (boxR v_4 h5) call fun v_6 h7 =>
arb (.val v_6 h7) call fun f_8 h9 =>
arb (.val f_8 h9) call fun v_10 h11 =>
arb (.call F_precentorhand_Feed_Float [v_10] h11) call fun v_12 h13 =>
arb (.val f_8 h13) call fun v_14 h15 =>
arb (.call F_precentorhand_Feed_Float [v_14] h15) call fun v_16 h17 =>
arb (.val f_8 h17) call fun v_18 h19 =>
arb (.call F_precentorhand_Feed_Float [v_18] h19) call fun v_20 h21 =>
arb (.val v_12 h21) call fun a_22 h23 =>
arb (.val v_16 h23) call fun b_24 h25 =>
arb (.val v_20 h25) call fun c_26 h27 =>
arb (.val a_22 h27) call fun v_28 h29 =>
arb (.val b_24 h29) call fun v_30 h31 =>
arb (.call F_float_Cmp [v_28, v_30] h31) call fun v_32 h33 =>
arb (.val v_32 h33) call fun v_34 h35 =>
arb (extR v_34 0 h35) call fun v_36 h37 =>
arb (extR v_34 1 h37) call fun v_38 h39 =>
arb (.val v_36 h39) call fun p_40 h41 =>
arb (.val v_38 h41) call fun pk_42 h43 =>
arb (.val b_24 h43) call fun v_44 h45 =>
arb (.val a_22 h45) call fun v_46 h47 =>
arb (.call F_float_Cmp [v_44, v_46] h47) call fun v_48 h49 =>
arb (.val v_48 h49) call fun v_50 h51 =>
arb (extR v_50 0 h51) call fun v_52 h53 =>
arb (extR v_50 1 h53) call fun v_54 h55 =>
arb (.val v_52 h55) call fun q_56 h57 =>
arb (.val v_54 h57) call fun qk_58 h59 =>
arb (.val b_24 h59) call fun v_60 h61 =>
arb (.val c_26 h61) call fun v_62 h63 =>
arb (.call F_float_Cmp [v_60, v_62] h63) call fun v_64 h65 =>
arb (.val v_64 h65) call fun v_66 h67 =>
arb (extR v_66 0 h67) call fun v_68 h69 =>
arb (extR v_66 1 h69) call fun v_70 h71 =>
arb (.val v_68 h71) call fun r_72 h73 =>
arb (.val v_70 h73) call fun rk_74 h75 =>
arb (.val a_22 h75) call fun v_76 h77 =>
arb (.val c_26 h77) call fun v_78 h79 =>
arb (.call F_float_Cmp [v_76, v_78] h79) call fun v_80 h81 =>
arb (.val v_80 h81) call fun v_82 h83 =>
arb (extR v_82 0 h83) call fun v_84 h85 =>
arb (extR v_82 1 h85) call fun v_86 h87 =>
arb (.val v_84 h87) call fun s_88 h89 =>
arb (.val v_86 h89) call fun sk_90 h91 =>
lt (sqK (J_precentorlaw2_FloatOrder_0 P call fuel k) k) fun k243 =>
arb (.call F_precentorlaw2_known [] h91) call fun v_244 h245 =>
arb (.of (aUn P .not v_244) h245) call fun v_246 h247 =>
arb (.val v_246 h247) call fun v_248 h249 =>
gd (wantB v_248 false) (fun c => arb (.val pk_42 h249) call c) h249 fun v_250 h251 =>
gd (wantB v_248 false) (fun c => arb (.val a_22 h251) call c) h251 fun v_252 h253 =>
gd (wantB v_248 false) (fun c => arb (.val a_22 h253) call c) h253 fun v_254 h255 =>
gd (wantB v_248 false) (fun c => arb (.of (aBin P .eql 22 (.tmp 58) (.tmp 59) v_252 v_254) h255) call c) h255 fun v_256 h257 =>
gd (wantB v_248 false) (fun c => arb (.val v_256 h257) call c) h257 fun v_258 h259 =>
gd (wantB v_258 true) (fun c => arb (.val b_24 h259) call c) h259 fun v_260 h261 =>
gd (wantB v_258 true) (fun c => arb (.val b_24 h261) call c) h261 fun v_262 h263 =>
gd (wantB v_258 true) (fun c => arb (.of (aBin P .eql 22 (.tmp 62) (.tmp 63) v_260 v_262) h263) call c) h263 fun v_264 h265 =>
gd (wantB v_248 false) (fun c => arb (pkR v_258 v_264 (.bool false) h265) call c) h265 fun v_266 h267 =>
gd (wantB v_248 false) (fun c => arb (.of (aBin P .neq 4 (.tmp 57) (.tmp 65) v_250 v_266) h267) call c) h267 fun v_268 h269 =>
arb (pkR v_248 (.bool true) v_268 h269) call fun v_270 h271 =>
arb (.val v_270 h271) call fun v_272 h273 =>
gd (wantB v_272 false) (fun c => arb (.val qk_58 h273) call c) h273 fun v_274 h275 =>
gd (wantB v_272 false) (fun c => arb (.val pk_42 h275) call c) h275 fun v_276 h277 =>
gd (wantB v_272 false) (fun c => arb (.of (aBin P .neq 4 (.tmp 69) (.tmp 70) v_274 v_276) h277) call c) h277 fun v_278 h279 =>
arb (pkR v_272 (.bool true) v_278 h279) call fun v_280 h281 =>
arb (.val v_280 h281) call fun v_282 h283 =>
gd (wantB v_282 false) (fun c => arb (.val p_40 h283) call c) h283 fun v_284 h285 =>
gd (wantB v_282 false) (fun c => arb (.val q_56 h285) call c) h285 fun v_286 h287 =>
gd (wantB v_282 false) (fun c => arb (.of (aUn P .neg v_286) h287) call c) h287 fun v_288 h289 =>
gd (wantB v_282 false) (fun c => arb (.of (aBin P .neq 3 (.tmp 74) (.tmp 76) v_284 v_288) h289) call c) h289 fun v_290 h291 =>
arb (pkR v_282 (.bool true) v_290 h291) call fun v_292 h293 =>
arb (.val v_292 h293) call fun v_294 h295 =>
gd (wantB v_294 false) (fun c => arb (.val rk_74 h295) call c) h295 fun v_296 h297 =>
gd (wantB v_294 false) (fun c => arb (.val b_24 h297) call c) h297 fun v_298 h299 =>
gd (wantB v_294 false) (fun c => arb (.val b_24 h299) call c) h299 fun v_300 h301 =>
gd (wantB v_294 false) (fun c => arb (.of (aBin P .eql 22 (.tmp 81) (.tmp 82) v_298 v_300) h301) call c) h301 fun v_302 h303 =>
gd (wantB v_294 false) (fun c => arb (.val v_302 h303) call c) h303 fun v_304 h305 =>
gd (wantB v_304 true) (fun c => arb (.val c_26 h305) call c) h305 fun v_306 h307 =>
gd (wantB v_304 true) (fun c => arb (.val c_26 h307) call c) h307 fun v_308 h309 =>
gd (wantB v_304 true) (fun c => arb (.of (aBin P .eql 22 (.tmp 85) (.tmp 86) v_306 v_308) h309) call c) h309 fun v_310 h311 =>
gd (wantB v_294 false) (fun c => arb (pkR v_304 v_310 (.bool false) h311) call c) h311 fun v_312 h313 =>
gd (wantB v_294 false) (fun c => arb (.of (aBin P .neq 4 (.tmp 80) (.tmp 88) v_296 v_312) h313) call c) h313 fun v_314 h315 =>
arb (pkR v_294 (.bool true) v_314 h315) call fun v_316 h317 =>
arb (.val v_316 h317) call fun v_318 h319 =>
gd (wantB v_318 false) (fun c => arb (.val sk_90 h319) call c) h319 fun v_320 h321 =>
gd (wantB v_318 false) (fun c => arb (.val a_22 h321) call c) h321 fun v_322 h323 =>
gd (wantB v_318 false) (fun c => arb (.val a_22 h323) call c) h323 fun v_324 h325 =>
gd (wantB v_318 false) (fun c => arb (.of (aBin P .eql 22 (.tmp 93) (.tmp 94) v_322 v_324) h325) call c) h325 fun v_326 h327 =>
gd (wantB v_318 false) (fun c => arb (.val v_326 h327) call c) h327 fun v_328 h329 =>
gd (wantB v_328 true) (fun c => arb (.val c_26 h329) call c) h329 fun v_330 h331 =>
gd (wantB v_328 true) (fun c => arb (.val c_26 h331) call c) h331 fun v_332 h333 =>
gd (wantB v_328 true) (fun c => arb (.of (aBin P .eql 22 (.tmp 97) (.tmp 98) v_330 v_332) h333) call c) h333 fun v_334 h335 =>
gd (wantB v_318 false) (fun c => arb (pkR v_328 v_334 (.bool false) h335) call c) h335 fun v_336 h337 =>
gd (wantB v_318 false) (fun c => arb (.of (aBin P .neq 4 (.tmp 92) (.tmp 100) v_320 v_336) h337) call c) h337 fun v_338 h339 =>
arb (pkR v_318 (.bool true) v_338 h339) call fun v_340 h341 =>
cb v_340 (
arb (.val (.bool false) h341) call fun v_342 h343 =>
k243 .ret (upd (upd (upd (upd (upd (upd (upd (upd (upd (upd (upd (upd (upd (upd (upd (upd (upd (upd (upd (upd (upd (upd (upd (upd (upd (upd (upd (upd (upd (upd (upd (upd (upd (upd (upd (upd (upd (upd (upd (upd (upd (upd (upd (upd (upd (upd (upd (upd (upd (upd (upd (upd (upd (upd (upd (upd (upd (upd (upd (upd (upd (upd (upd (upd (upd (upd (upd (upd (upd (upd (upd (upd (upd (upd (upd (upd (upd (upd (upd (upd (upd (upd (upd (upd (upd (upd (upd (upd (upd (upd (upd (upd (upd (upd (upd (upd (enterT [l_a0, n_a1]) 4 v_0) 21 v_2) 22 v_4) 23 v_6) 5 f_8) 24 v_10) 25 v_12) 26 v_14) 27 v_16) 28 v_18) 29 v_20) 6 a_22) 7 b_24) 8 c_26) 31 v_28) 32 v_30) 33 v_32) 30 v_34) 34 v_36) 35 v_38) 9 p_40) 10 pk_42) 37 v_44) 38 v_46) 39 v_48) 36 v_50) 40 v_52) 41 v_54) 11 q_56) 12 qk_58) 43 v_60) 44 v_62) 45 v_64) 42 v_66) 46 v_68) 47 v_70) 13 r_72) 14 rk_74) 49 v_76) 50 v_78) 51 v_80) 48 v_82) 52 v_84) 53 v_86) 15 s_88) 16 sk_90) 54 v_244) 55 v_246) 56 v_248) 57 v_250) 58 v_252) 59 v_254) 60 v_256) 61 v_258) 62 v_260) 63 v_262) 64 v_264) 65 v_266) 66 v_268) 67 v_270) 68 v_272) 69 v_274) 70 v_276) 71 v_278) 72 v_280) 73 v_282) 74 v_284) 75 v_286) 76 v_288) 77 v_290) 78 v_292) 79 v_294) 80 v_296) 81 v_298) 82 v_300) 83 v_302) 84 v_304) 85 v_306) 86 v_308) 87 v_310) 88 v_312) 89 v_314) 90 v_316) 91 v_318) 92 v_320) 93 v_322) 94 v_324) 95 v_326) 96 v_328) 97 v_330) 98 v_332) 99 v_334) 100 v_336) 101 v_338) 102 v_340) 4 v_342) h343) (
k243 .normal (upd (upd (upd (upd (upd (upd (upd (upd (upd (upd (upd (upd (upd (upd (upd (upd (upd (upd (upd (upd (upd (upd (upd (upd (upd (upd (upd (upd (upd (upd (upd (upd (upd (upd (upd (upd (upd (upd (upd (upd (upd (upd (upd (upd (upd (upd (upd (upd (upd (upd (upd (upd (upd (upd (upd (upd (upd (upd (upd (upd (upd (upd (upd (upd (upd (upd (upd (upd (upd (upd (upd (upd (upd (upd (upd (upd (upd (upd (upd (upd (upd (upd (upd (upd (upd (upd (upd (upd (upd (upd (upd (upd (upd (upd (upd (enterT [l_a0, n_a1]) 4 v_0) 21 v_2) 22 v_4) 23 v_6) 5 f_8) 24 v_10) 25 v_12) 26 v_14) 27 v_16) 28 v_18) 29 v_20) 6 a_22) 7 b_24) 8 c_26) 31 v_28) 32 v_30) 33 v_32) 30 v_34) 34 v_36) 35 v_38) 9 p_40) 10 pk_42) 37 v_44) 38 v_46) 39 v_48) 36 v_50) 40 v_52) 41 v_54) 11 q_56) 12 qk_58) 43 v_60) 44 v_62) 45 v_64) 42 v_66) 46 v_68) 47 v_70) 13 r_72) 14 rk_74) 49 v_76) 50 v_78) 51 v_80) 48 v_82) 52 v_84) 53 v_86) 15 s_88) 16 sk_90) 54 v_244) 55 v_246) 56 v_248) 57 v_250) 58 v_252) 59 v_254) 60 v_256) 61 v_258) 62 v_260) 63 v_262) 64 v_264) 65 v_266) 66 v_268) 67 v_270) 68 v_272) 69 v_274) 70 v_276) 71 v_278) 72 v_280) 73 v_282) 74 v_284) 75 v_286) 76 v_288) 77 v_290) 78 v_292) 79 v_294) 80 v_296) 81 v_298) 82 v_300) 83 v_302) 84 v_304) 85 v_306) 86 v_308) 87 v_310) 88 v_312) 89 v_314) 90 v_316) 91 v_318) 92 v_320) 93 v_322) 94 v_324) 95 v_326) 96 v_328) 97 v_330) 98 v_332) 99 v_334) 100 v_336) 101 v_338) 102 v_340) h341)
theorem E_precentorlaw2_FloatOrder (call : FuncId → List AVal → Heap → Res AVal) (fuel : Nat) (l_a0 n_a1 : AVal) (h : Heap) : bodyR Try.prog call fuel Try.f5 [l_a0, n_a1] h = S_precentorlaw2_FloatOrder Try.prog call fuel l_a0 n_a1 h := by kernel_rfl
theorem R_precentorlaw2_FloatOrder {X : XTab} (l_a0 n_a1 : AVal) {h : Heap} {Q : AVal → Heap → Prop} (hx : X F_precentorlaw2_FloatOrder [l_a0, n_a1] = none) (q : Tells (fun m => S_precentorlaw2_FloatOrder Try.prog (acallX Try.prog X m) m l_a0 n_a1 h) Q) :
    Tells (fun m => acallX Try.prog X m F_precentorlaw2_FloatOrder [l_a0, n_a1] h) Q :=
  Tells.later (q.le fun m => (E_precentorlaw2_FloatOrder (acallX Try.prog X m) m l_a0 n_a1 h) ▸ acallX_le Try.func5 hx m h)

/-! ### precentor/precentorlaw2.FloatBits -/
def J_precentorlaw2_FloatBits_1 (P : Program) (call : FuncId → List AVal → Heap → Res AVal) (fuel : Nat) (k : Kn (AVal)) (t : T) (h : Heap) : Res (AVal) :=
arb (.val (t 0) h) call fun v_26 h27 =>
arb (.val (t 1) h27) call fun v_28 h29 =>
arb (.call F_float_Cmp [v_26, v_28] h29) call fun v_30 h31 =>
arb (.val v_30 h31) call fun v_32 h33 =>
arb (extR v_32 0 h33) call fun v_34 h35 =>
arb (extR v_32 1 h35) call fun v_36 h37 =>
arb (.val v_34 h37) call fun c_38 h39 =>
arb (.val v_36 h39) call fun is_40 h41 =>
arb (.val is_40 h41) call fun v_42 h43 =>
arb (.val v_42 h43) call fun v_44 h45 =>
gd (wantB v_44 true) (fun c => arb (.val c_38 h45) call c) h45 fun v_46 h47 =>
gd (wantB v_44 true) (fun c => arb (.of (aBin P .eql 3 (.tmp 77) (.const (.int .i64 0)) v_46 (.int .i64 0)) h47) call c) h47 fun v_48 h49 =>
arb (pkR v_44 v_48 (.bool false) h49) call fun v_50 h51 =>
arb (.val v_50 h51) call fun v_52 h53 =>
gd (wantB v_52 false) (fun c => arb (.val (t 0) h53) call c) h53 fun v_54 h55 =>
gd (wantB v_52 false) (fun c => arb (.val (t 0) h55) call c) h55 fun v_56 h57 =>
gd (wantB v_52 false) (fun c => arb (.of (aBin P .neq 22 (.tmp 81) (.tmp 82) v_54 v_56) h57) call c) h57 fun v_58 h59 =>
gd (wantB v_52 false) (fun c => arb (.val v_58 h59) call c) h59 fun v_60 h61 =>
gd (wantB v_60 true) (fun c => arb (.val (t 1) h61) call c) h61 fun v_62 h63 =>
gd (wantB v_60 true) (fun c => arb (.val (t 1) h63) call c) h63 fun v_64 h65 =>
gd (wantB v_60 true) (fun c => arb (.of (aBin P .neq 22 (.tmp 85) (.tmp 86) v_62 v_64) h65) call c) h65 fun v_66 h67 =>
gd (wantB v_52 false) (fun c => arb (pkR v_60 v_66 (.bool false) h67) call c) h67 fun v_68 h69 =>
arb (pkR v_52 (.bool true) v_68 h69) call fun v_70 h71 =>
arb (.val v_70 h71) call fun same_72 h73 =>
arb (.val (t 0) h73) call fun v_74 h75 =>
arb (.val (t 1) h75) call fun v_76 h77 =>
arb (.call F_float_Same [v_74, v_76] h77) call fun v_78 h79 =>
arb (.val same_72 h79) call fun v_80 h81 =>
arb (.of (aBin P .eql 4 (.tmp 92) (.tmp 93) v_78 v_80) h81) call fun v_82 h83 =>
arb (.val v_82 h83) call fun v_84 h85 =>
gd (wantB v_84 true) (fun c => arb (.val (t 1) h85) call c) h85 fun v_86 h87 =>
gd (wantB v_84 true) (fun c => arb (.val (t 0) h87) call c) h87 fun v_88 h89 =>
gd (wantB v_84 true) (fun c => arb (.call F_float_Same [v_86, v_88] h89) call c) h89 fun v_90 h91 =>
gd (wantB v_84 true) (fun c => arb (.val same_72 h91) call c) h91 fun v_92 h93 =>
gd (wantB v_84 true) (fun c => arb (.of (aBin P .eql 4 (.tmp 98) (.tmp 99) v_90 v_92) h93) call c) h93 fun v_94 h95 =>
arb (pkR v_84 v_94 (.bool false) h95) call fun v_96 h97 =>
arb (.val v_96 h97) call fun v_98 h99 =>
gd (wantB v_98 true) (fun c => arb (.val (t 0) h99) call c) h99 fun v_100 h101 =>
gd (wantB v_98 true) (fun c => arb (.val (t 0) h101) call c) h101 fun v_102 h103 =>
gd (wantB v_98 true) (fun c => arb (.call F_float_Same [v_100, v_102] h103) call c) h103 fun v_104 h105 =>
arb (pkR v_98 v_104 (.bool false) h105) call fun v_106 h107 =>
arb (.val v_106 h107) call fun v_108 h109 =>
k .ret (upd (upd (upd (upd (upd (upd (upd (upd (upd (upd (upd (upd (upd (upd (upd (upd (upd (upd (upd (upd (upd (upd (upd (upd (upd (upd (upd (upd (upd (upd (upd (upd (upd (upd (upd (upd (upd (upd (upd (upd (upd (upd t 70 v_26) 71 v_28) 72 v_30) 69 v_32) 73 v_34) 74 v_36) 10 c_38) 11 is_40) 75 v_42) 76 v_44) 77 v_46) 78 v_48) 79 v_50) 80 v_52) 81 v_54) 82 v_56) 83 v_58) 84 v_60) 85 v_62) 86 v_64) 87 v_66) 88 v_68) 89 v_70) 12 same_72) 90 v_74) 91 v_76) 92 v_78) 93 v_80) 94 v_82) 95 v_84) 96 v_86) 97 v_88) 98 v_90) 99 v_92) 100 v_94) 101 v_96) 102 v_98) 103 v_100) 104 v_102) 105 v_104) 106 v_106) 6 v_108) h109

def J_precentorlaw2_FloatBits_0 (P : Program) (call : FuncId → List AVal → Heap → Res AVal) (fuel : Nat) (k : Kn (AVal)) (t : T) (h : Heap) : Res (AVal) :=
arb (.val (t 0) h) call fun v_10 h11 =>
arb (.call F_float_Bits [v_10] h11) call fun v_12 h13 =>
arb (.call F_float_Of [v_12] h13) call fun v_14 h15 =>
arb (.val v_14 h15) call fun v_16 h17 =>
arb (extR v_16 0 h17) call fun v_18 h19 =>
arb (extR v_16 1 h19) call fun v_20 h21 =>
arb (.val v_18 h21) call fun x_22 h23 =>
arb (.val v_20 h23) call fun ok_24 h25 =>
lt (sqK (J_precentorlaw2_FloatBits_1 P call fuel k) k) fun k110 =>
arb (.call F_precentorlaw2_known [] h25) call fun v_111 h112 =>
arb (.of (aUn P .not v_111) h112) call fun v_113 h114 =>
arb (.val v_113 h114) call fun v_115 h116 =>
gd (wantB v_115 false) (fun c => arb (.val ok_24 h116) call c) h116 fun v_117 h118 =>
gd (wantB v_115 false) (fun c => arb (.of (aUn P .not v_117) h118) call c) h118 fun v_119 h120 =>
arb (pkR v_115 (.bool true) v_119 h120) call fun v_121 h122 =>
arb (.val v_121 h122) call fun v_123 h124 =>
gd (wantB v_123 false) (fun c => arb (.val x_22 h124) call c) h124 fun v_125 h126 =>
gd (wantB v_123 false) (fun c => arb (.call F_float_Bits [v_125] h126) call c) h126 fun v_127 h128 =>
gd (wantB v_123 false) (fun c => arb (.val (t 0) h128) call c) h128 fun v_129 h130 =>
gd (wantB v_123 false) (fun c => arb (.call F_float_Bits [v_129] h130) call c) h130 fun v_131 h132 =>
gd (wantB v_123 false) (fun c => arb (.of (aBin P .neq 31 (.tmp 37) (.tmp 39) v_127 v_131) h132) call c) h132 fun v_133 h134 =>
arb (pkR v_123 (.bool true) v_133 h134) call fun v_135 h136 =>
arb (.val v_135 h136) call fun v_137 h138 =>
gd (wantB v_137 false) (fun c => arb (.val x_22 h138) call c) h138 fun v_139 h140 =>
gd (wantB v_137 false) (fun c => arb (.val x_22 h140) call c) h140 fun v_141 h142 =>
gd (wantB v_137 false) (fun c => arb (.of (aBin P .eql 22 (.tmp 43) (.tmp 44) v_139 v_141) h142) call c) h142 fun v_143 h144 =>
gd (wantB v_137 false) (fun c => arb (.val (t 0) h144) call c) h144 fun v_145 h146 =>
gd (wantB v_137 false) (fun c => arb (.val (t 0) h146) call c) h146 fun v_147 h148 =>
gd (wantB v_137 false) (fun c => arb (.of (aBin P .eql 22 (.tmp 46) (.tmp 47) v_145 v_147) h148) call c) h148 fun v_149 h150 =>
gd (wantB v_137 false) (fun c => arb (.of (aBin P .neq 4 (.tmp 45) (.tmp 48) v_143 v_149) h150) call c) h150 fun v_151 h152 =>
arb (pkR v_137 (.bool true) v_151 h152) call fun v_153 h154 =>
arb (.val v_153 h154) call fun v_155 h156 =>
gd (wantB v_155 false) (fun c => arb (.val (t 0) h156) call c) h156 fun v_157 h158 =>
gd (wantB v_155 false) (fun c => arb (.val (t 0) h158) call c) h158 fun v_159 h160 =>
gd (wantB v_155 false) (fun c => arb (.of (aBin P .eql 22 (.tmp 52) (.tmp 53) v_157 v_159) h160) call c) h160 fun v_161 h162 =>
gd (wantB v_155 false) (fun c => arb (.val v_161 h162) call c) h162 fun v_163 h164 =>
gd (wantB v_163 true) (fun c => arb (.val x_22 h164) call c) h164 fun v_165 h166 =>
gd (wantB v_163 true) (fun c => arb (.val (t 0) h166) call c) h166 fun v_167 h168 =>
gd (wantB v_163 true) (fun c => arb (.of (aBin P .neq 22 (.tmp 56) (.tmp 57) v_165 v_167) h168) call c) h168 fun v_169 h170 =>
gd (wantB v_155 false) (fun c => arb (pkR v_163 v_169 (.bool false) h170) call c) h170 fun v_171 h172 =>
arb (pkR v_155 (.bool true) v_171 h172) call fun v_173 h174 =>
arb (.val v_173 h174) call fun v_175 h176 =>
gd (wantB v_175 false) (fun c => arb (.val x_22 h176) call c) h176 fun v_177 h178 =>
gd (wantB v_175 false) (fun c => arb (.of (aBin P .eql 22 (.tmp 62) (.const (.float .f64 0)) v_177 (.flt .f64 0)) h178) call c) h178 fun v_179 h180 =>
gd (wantB v_175 false) (fun c => arb (.val v_179 h180) call c) h180 fun v_181 h182 =>
gd (wantB v_181 true) (fun c => arb (.val x_22 h182) call c) h182 fun v_183 h184 =>
gd (wantB v_181 true) (fun c => arb (.call F_math_Signbit [v_183] h184) call c) h184 fun v_185 h186 =>
gd (wantB v_175 false) (fun c => arb (pkR v_181 v_185 (.bool false) h186) call c) h186 fun v_187 h188 =>
arb (pkR v_175 (.bool true) v_187 h188) call fun v_189 h190 =>
cb v_189 (
arb (.val (.bool false) h190) call fun v_191 h192 =>
k110 .ret (upd (upd (upd (upd (upd (upd (upd (upd (upd (upd (upd (upd (upd (upd (upd (upd (upd (upd (upd (upd (upd (upd (upd (upd (upd (upd (upd (upd (upd (upd (upd (upd (upd (upd (upd (upd (upd (upd (upd (upd (upd (upd (upd (upd (upd (upd (upd (upd (upd t 24 v_10) 25 v_12) 26 v_14) 23 v_16) 27 v_18) 28 v_20) 8 x_22) 9 ok_24) 29 v_111) 30 v_113) 31 v_115) 32 v_117) 33 v_119) 34 v_121) 35 v_123) 36 v_125) 37 v_127) 38 v_129) 39 v_131) 40 v_133) 41 v_135) 42 v_137) 43 v_139) 44 v_141) 45 v_143) 46 v_145) 47 v_147) 48 v_149) 49 v_151) 50 v_153) 51 v_155) 52 v_157) 53 v_159) 54 v_161) 55 v_163) 56 v_165) 57 v_167) 58 v_169) 59 v_171) 60 v_173) 61 v_175) 62 v_177) 63 v_179) 64 v_181) 65 v_183) 66 v_185) 67 v_187) 68 v_189) 6 v_191) h192) (
k110 .normal (upd (upd (upd (upd (upd (upd (upd (upd (upd (upd (upd (upd (upd (upd (upd (upd (upd (upd (upd (upd (upd (upd (upd (upd (upd (upd (upd (upd (upd (upd (upd (upd (upd (upd (upd (upd (upd (upd (upd (upd (upd (upd (upd (upd (upd (upd (upd (upd t 24 v_10) 25 v_12) 26 v_14) 23 v_16) 27 v_18) 28 v_20) 8 x_22) 9 ok_24) 29 v_111) 30 v_113) 31 v_115) 32 v_117) 33 v_119) 34 v_121) 35 v_123) 36 v_125) 37 v_127) 38 v_129) 39 v_131) 40 v_133) 41 v_135) 42 v_137) 43 v_139) 44 v_141) 45 v_143) 46 v_145) 47 v_147) 48 v_149) 49 v_151) 50 v_153) 51 v_155) 52 v_157) 53 v_159) 54 v_161) 55 v_163) 56 v_165) 57 v_167) 58 v_169) 59 v_171) 60 v_173) 61 v_175) 62 v_177) 63 v_179) 64 v_181) 65 v_183) 66 v_185) 67 v_187) 68 v_189) h190)

def S_precentorlaw2_FloatBits (P : Program) (call : FuncId → List AVal → Heap → Res AVal) (fuel : Nat) (a_a0 b_a1 l_a2 : AVal) (h : Heap) : Res AVal :=
lt (retK P [.tmp 6]) fun k =>
arb (.val (.bool false) h) call fun v_0 h1 =>
arb (.val l_a2 h1) call fun v_2 h3 =>
arb (.of (bldR [.nils, (.int .i64 0)] [(0, 1, v_2)]) h3) call fun v_4 h5 =>
arb (boxR v_4 h5) call fun v_6 h7 =>
arb (.val v_6 h7) call fun f_8 h9 =>
lt (sqK (J_precentorlaw2_FloatBits_0 P call fuel k) k) fun k193 =>
arb (.val f_8 h9) call fun v_194 h195 =>
arb (.call F_precentorhand_Feed_Next [v_194, (.int .i64 2)] h195) call fun v_196 h197 =>
arb (.of (aBin P .eql 3 (.tmp 17) (.const (.int .i64 1)) v_196 (.int .i64 1)) h197) call fun v_198 h199 =>
cb v_198 (
arb (.val f_8 h199) call fun v_200 h201 =>
arb (.call F_precentorhand_Feed_Float [v_200] h201) call fun v_202 h203 =>
arb (.val f_8 h203) call fun v_204 h205 =>
arb (.call F_precentorhand_Feed_Float [v_204] h205) call fun v_206 h207 =>
arb (.val v_202 h207) call fun a_208 h209 =>
arb (.val v_206 h209) call fun b_210 h211 =>
k193 .normal (upd (upd (upd (upd (upd (upd (upd (upd (upd (upd (upd (upd (upd (upd (enterT [a_a0, b_a1, l_a2]) 6 v_0) 13 v_2) 14 v_4) 15 v_6) 7 f_8) 16 v_194) 17 v_196) 18 v_198) 19 v_200) 20 v_202) 21 v_204) 22 v_206) 0 a_208) 1 b_210) h211) (
k193 .normal (upd (upd (upd (upd (upd (upd (upd (upd (enterT [a_a0, b_a1, l_a2]) 6 v_0) 13 v_2) 14 v_4) 15 v_6) 7 f_8) 16 v_194) 17 v_196) 18 v_198) h199)
theorem E_precentorlaw2_FloatBits (call : FuncId → List AVal → Heap → Res AVal) (fuel : Nat) (a_a0 b_a1 l_a2 : AVal) (h : Heap) : bodyR Try.prog call fuel Try.f6 [a_a0, b_a1, l_a2] h = S_precentorlaw2_FloatBits Try.prog call fuel a_a0 b_a1 l_a2 h := by kernel_rfl
theorem R_precentorlaw2_FloatBits {X : XTab} (a_a0 b_a1 l_a2 : AVal) {h : Heap} {Q : AVal → Heap → Prop} (hx : X F_precentorlaw2_FloatBits [a_a0, b_a1, l_a2] = none) (q : Tells (fun m => S_precentorlaw2_FloatBits Try.prog (acallX Try.prog X m) m a_a0 b_a1 l_a2 h) Q) :
    Tells (fun m => acallX Try.prog X m F_precentorlaw2_FloatBits [a_a0, b_a1, l_a2] h) Q :=
  Tells.later (q.le fun m => (E_precentorlaw2_FloatBits (acallX Try.prog X m) m a_a0 b_a1 l_a2 h) ▸ acallX_le Try.func6 hx m h)

/-! ### precentor/precentorlaw2.FloatExact -/
def J_precentorlaw2_FloatExact_5 (P : Program) (call : FuncId → List AVal → Heap → Res AVal) (fuel : Nat) (k : Kn (AVal)) (t : T) (h : Heap) : Res (AVal) :=
arb (.val (t 6) h) call fun v_42 h43 =>
arb (.of (aBin P .eql 3 (.tmp 67) (.const (.int .i64 (-1))) v_42 (.int .i64 (-1))) h43) call fun v_44 h45 =>
arb (.val v_44 h45) call fun v_46 h47 =>
k .ret (upd (upd (upd t 67 v_42) 68 v_44) 4 v_46) h47

def J_precentorlaw2_FloatExact_4 (P : Program) (call : FuncId → List AVal → Heap → Res AVal) (fuel : Nat) (k : Kn (AVal)) (t : T) (h : Heap) : Res (AVal) :=
arb (.val (t 5) h) call fun v_24 h25 =>
arb (.call F_math_Floor [v_24] h25) call fun v_26 h27 =>
arb (aConv P h27 22 2 v_26) call fun v_28 h29 =>
arb (.val v_28 h29) call fun w_30 h31 =>
arb (.val (t 5) h31) call fun v_32 h33 =>
arb (.val (t 5) h33) call fun v_34 h35 =>
arb (.call F_math_Floor [v_34] h35) call fun v_36 h37 =>
arb (.of (aBin P .sub 22 (.tmp 47) (.tmp 49) v_32 v_36) h37) call fun v_38 h39 =>
arb (.val v_38 h39) call fun rest_40 h41 =>
lt (sqK (J_precentorlaw2_FloatExact_5 P call fuel k) k) fun k48 =>
lt (blkK 0 k48) fun k49 =>
arb (.val (t 0) h41) call fun v_50 h51 =>
arb (.val w_30 h51) call fun v_52 h53 =>
arb (.of (aBin P .gtr 2 (.tmp 52) (.tmp 53) v_50 v_52) h53) call fun v_54 h55 =>
arb (.val v_54 h55) call fun v_56 h57 =>
cb v_56 (
arb (.val (t 6) h57) call fun v_58 h59 =>
arb (.of (aBin P .eql 3 (.tmp 55) (.const (.int .i64 1)) v_58 (.int .i64 1)) h59) call fun v_60 h61 =>
arb (.val v_60 h61) call fun v_62 h63 =>
k49 .ret (upd (upd (upd (upd (upd (upd (upd (upd (upd (upd (upd (upd (upd (upd (upd (upd t 44 v_24) 45 v_26) 46 v_28) 8 w_30) 47 v_32) 48 v_34) 49 v_36) 50 v_38) 9 rest_40) 52 v_50) 53 v_52) 54 v_54) 51 v_56) 55 v_58) 56 v_60) 4 v_62) h63) (
arb (.val (t 0) h57) call fun v_64 h65 =>
arb (.val w_30 h65) call fun v_66 h67 =>
arb (.of (aBin P .eql 2 (.tmp 58) (.tmp 59) v_64 v_66) h67) call fun v_68 h69 =>
arb (.val v_68 h69) call fun v_70 h71 =>
gd (wantB v_70 true) (fun c => arb (.val rest_40 h71) call c) h71 fun v_72 h73 =>
gd (wantB v_70 true) (fun c => arb (.of (aBin P .eql 22 (.tmp 62) (.const (.float .f64 0)) v_72 (.flt .f64 0)) h73) call c) h73 fun v_74 h75 =>
arb (pkR v_70 v_74 (.bool false) h75) call fun v_76 h77 =>
arb (.val v_76 h77) call fun v_78 h79 =>
cb v_78 (
arb (.val (t 6) h79) call fun v_80 h81 =>
arb (.of (aBin P .eql 3 (.tmp 65) (.const (.int .i64 0)) v_80 (.int .i64 0)) h81) call fun v_82 h83 =>
arb (.val v_82 h83) call fun v_84 h85 =>
k49 .ret (upd (upd (upd (upd (upd (upd (upd (upd (upd (upd (upd (upd (upd (upd (upd (upd (upd (upd (upd (upd (upd (upd (upd (upd t 44 v_24) 45 v_26) 46 v_28) 8 w_30) 47 v_32) 48 v_34) 49 v_36) 50 v_38) 9 rest_40) 52 v_50) 53 v_52) 54 v_54) 51 v_56) 58 v_64) 59 v_66) 60 v_68) 61 v_70) 62 v_72) 63 v_74) 64 v_76) 57 v_78) 65 v_80) 66 v_82) 4 v_84) h85) (
k49 .normal (upd (upd (upd (upd (upd (upd (upd (upd (upd (upd (upd (upd (upd (upd (upd (upd (upd (upd (upd (upd (upd t 44 v_24) 45 v_26) 46 v_28) 8 w_30) 47 v_32) 48 v_34) 49 v_36) 50 v_38) 9 rest_40) 52 v_50) 53 v_52) 54 v_54) 51 v_56) 58 v_64) 59 v_66) 60 v_68) 61 v_70) 62 v_72) 63 v_74) 64 v_76) 57 v_78) h79))

def J_precentorlaw2_FloatExact_3 (P : Program) (call : FuncId → List AVal → Heap → Res AVal) (fuel : Nat) (k : Kn (AVal)) (t : T) (h : Heap) : Res (AVal) :=
lt (sqK (J_precentorlaw2_FloatExact_4 P call fuel k) k) fun k86 =>
arb (.val (t 5) h) call fun v_87 h88 =>
arb (.of (aBin P .lss 22 (.tmp 40) (.const (.float .f64 14114281232179134464)) v_87 (.flt .f64 14114281232179134464)) h88) call fun v_89 h90 =>
cb v_89 (
arb (.val (t 6) h90) call fun v_91 h92 =>
arb (.of (aBin P .eql 3 (.tmp 42) (.const (.int .i64 1)) v_91 (.int .i64 1)) h92) call fun v_93 h94 =>
arb (.val v_93 h94) call fun v_95 h96 =>
k86 .ret (upd (upd (upd (upd (upd t 40 v_87) 41 v_89) 42 v_91) 43 v_93) 4 v_95) h96) (
k86 .normal (upd (upd t 40 v_87) 41 v_89) h90)

def J_precentorlaw2_FloatExact_2 (P : Program) (call : FuncId → List AVal → Heap → Res AVal) (fuel : Nat) (k : Kn (AVal)) (t : T) (h : Heap) : Res (AVal) :=
lt (sqK (J_precentorlaw2_FloatExact_3 P call fuel k) k) fun k97 =>
arb (.val (t 5) h) call fun v_98 h99 =>
arb (.of (aBin P .geq 22 (.tmp 36) (.const (.float .f64 4890909195324358656)) v_98 (.flt .f64 4890909195324358656)) h99) call fun v_100 h101 =>
cb v_100 (
arb (.val (t 6) h101) call fun v_102 h103 =>
arb (.of (aBin P .eql 3 (.tmp 38) (.const (.int .i64 (-1))) v_102 (.int .i64 (-1))) h103) call fun v_104 h105 =>
arb (.val v_104 h105) call fun v_106 h107 =>
k97 .ret (upd (upd (upd (upd (upd t 36 v_98) 37 v_100) 38 v_102) 39 v_104) 4 v_106) h107) (
k97 .normal (upd (upd t 36 v_98) 37 v_100) h101)

def J_precentorlaw2_FloatExact_1 (P : Program) (call : FuncId → List AVal → Heap → Res AVal) (fuel : Nat) (k : Kn (AVal)) (t : T) (h : Heap) : Res (AVal) :=
arb (.val (t 0) h) call fun v_8 h9 =>
arb (.val (t 5) h9) call fun v_10 h11 =>
arb (.call F_float_CmpInt [v_8, v_10] h11) call fun v_12 h13 =>
arb (.val v_12 h13) call fun v_14 h15 =>
arb (extR v_14 0 h15) call fun v_16 h17 =>
arb (extR v_14 1 h17) call fun v_18 h19 =>
arb (.val v_16 h19) call fun c_20 h21 =>
arb (.val v_18 h21) call fun ok_22 h23 =>
lt (sqK (J_precentorlaw2_FloatExact_2 P call fuel k) k) fun k108 =>
arb (.call F_precentorlaw2_known [] h23) call fun v_109 h110 =>
arb (.of (aUn P .not v_109) h110) call fun v_111 h112 =>
arb (.val v_111 h112) call fun v_113 h114 =>
gd (wantB v_113 false) (fun c => arb (.val ok_22 h114) call c) h114 fun v_115 h116 =>
gd (wantB v_113 false) (fun c => arb (.of (aUn P .not v_115) h116) call c) h116 fun v_117 h118 =>
arb (pkR v_113 (.bool true) v_117 h118) call fun v_119 h120 =>
cb v_119 (
arb (.val (.bool false) h120) call fun v_121 h122 =>
k108 .ret (upd (upd (upd (upd (upd (upd (upd (upd (upd (upd (upd (upd (upd (upd (upd t 25 v_8) 26 v_10) 27 v_12) 24 v_14) 28 v_16) 29 v_18) 6 c_20) 7 ok_22) 30 v_109) 31 v_111) 32 v_113) 33 v_115) 34 v_117) 35 v_119) 4 v_121) h122) (
k108 .normal (upd (upd (upd (upd (upd (upd (upd (upd (upd (upd (upd (upd (upd (upd t 25 v_8) 26 v_10) 27 v_12) 24 v_14) 28 v_16) 29 v_18) 6 c_20) 7 ok_22) 30 v_109) 31 v_111) 32 v_113) 33 v_115) 34 v_117) 35 v_119) h120)

def J_precentorlaw2_FloatExact_0 (P : Program) (call : FuncId → List AVal → Heap → Res AVal) (fuel : Nat) (k : Kn (AVal)) (t : T) (h : Heap) : Res (AVal) :=
lt (sqK (J_precentorlaw2_FloatExact_1 P call fuel k) k) fun k123 =>
arb (.val (t 1) h) call fun v_124 h125 =>
arb (.call F_precentorhand_Pick [v_124, (.int .i64 3)] h125) call fun v_126 h127 =>
arb (.of (aBin P .eql 3 (.tmp 19) (.const (.int .i64 2)) v_126 (.int .i64 2)) h127) call fun v_128 h129 =>
cb v_128 (
arb (.val (t 5) h129) call fun v_130 h131 =>
arb (.call F_math_Inf [(.int .i64 (-1))] h131) call fun v_132 h133 =>
arb (.call F_math_Nextafter [v_130, v_132] h133) call fun v_134 h135 =>
arb (.val v_134 h135) call fun x_136 h137 =>
k123 .normal (upd (upd (upd (upd (upd (upd (upd t 18 v_124) 19 v_126) 20 v_128) 21 v_130) 22 v_132) 23 v_134) 5 x_136) h137) (
k123 .normal (upd (upd (upd t 18 v_124) 19 v_126) 20 v_128) h129)

def S_precentorlaw2_FloatExact (P : Program) (call : FuncId → List AVal → Heap → Res AVal) (fuel : Nat) (n_a0 by_a1 : AVal) (h : Heap) : Res AVal :=
lt (retK P [.tmp 4]) fun k =>
arb (.val (.bool false) h) call fun v_0 h1 =>
arb (.val n_a0 h1) call fun v_2 h3 =>
arb (aConv P h3 2 22 v_2) call fun v_4 h5 =>
arb (.val v_4 h5) call fun x_6 h7 =>
lt (sqK (J_precentorlaw2_FloatExact_0 P call fuel k) k) fun k138 =>
arb (.val by_a1 h7) call fun v_139 h140 =>
arb (.call F_precentorhand_Pick [v_139, (.int .i64 3)] h140) call fun v_141 h142 =>
arb (.of (aBin P .eql 3 (.tmp 13) (.const (.int .i64 1)) v_141 (.int .i64 1)) h142) call fun v_143 h144 =>
cb v_143 (
arb (.val x_6 h144) call fun v_145 h146 =>
arb (.call F_math_Inf [(.int .i64 1)] h146) call fun v_147 h148 =>
arb (.call F_math_Nextafter [v_145, v_147] h148) call fun v_149 h150 =>
arb (.val v_149 h150) call fun x_151 h152 =>
k138 .normal (upd (upd (upd (upd (upd (upd (upd (upd (upd (upd (upd (enterT [n_a0, by_a1]) 4 v_0) 10 v_2) 11 v_4) 5 x_6) 12 v_139) 13 v_141) 14 v_143) 15 v_145) 16 v_147) 17 v_149) 5 x_151) h152) (
k138 .normal (upd (upd (upd (upd (upd (upd (upd (enterT [n_a0, by_a1]) 4 v_0) 10 v_2) 11 v_4) 5 x_6) 12 v_139) 13 v_141) 14 v_143) h144)
theorem E_precentorlaw2_FloatExact (call : FuncId → List AVal → Heap → Res AVal) (fuel : Nat) (n_a0 by_a1 : AVal) (h : Heap) : bodyR Try.prog call fuel Try.f7 [n_a0, by_a1] h = S_precentorlaw2_FloatExact Try.prog call fuel n_a0 by_a1 h := by kernel_rfl
theorem R_precentorlaw2_FloatExact {X : XTab} (n_a0 by_a1 : AVal) {h : Heap} {Q : AVal → Heap → Prop} (hx : X F_precentorlaw2_FloatExact [n_a0, by_a1] = none) (q : Tells (fun m => S_precentorlaw2_FloatExact Try.prog (acallX Try.prog X m) m n_a0 by_a1 h) Q) :
    Tells (fun m => acallX Try.prog X m F_precentorlaw2_FloatExact [n_a0, by_a1] h) Q :=
  Tells.later (q.le fun m => (E_precentorlaw2_FloatExact (acallX Try.prog X m) m n_a0 by_a1 h) ▸ acallX_le Try.func7 hx m h)

/-! ### precentor/precentorlaw2.known -/

def S_precentorlaw2_known (P : Program) (call : FuncId → List AVal → Heap → Res AVal) (fuel : Nat) (h : Heap) : Res AVal :=
lt (retK P [.tmp 0]) fun k =>
arb (.val (.bool false) h) call fun v_0 h1 =>
arb (.call F_precentorlaw2_FloatKnown [] h1) call fun v_2 h3 =>
arb (.val v_2 h3) call fun v_4 h5 =>
k .ret (upd (upd (upd (enterT []) 0 v_0) 1 v_2) 0 v_4) h5
theorem E_precentorlaw2_known (call : FuncId → List AVal → Heap → Res AVal) (fuel : Nat) (h : Heap) : bodyR Try.prog call fuel Try.f22 [] h = S_precentorlaw2_known Try.prog call fuel  h := by kernel_rfl
theorem R_precentorlaw2_known {X : XTab} {h : Heap} {Q : AVal → Heap → Prop} (hx : X F_precentorlaw2_known [] = none) (q : Tells (fun m => S_precentorlaw2_known Try.prog (acallX Try.prog X m) m  h) Q) :
    Tells (fun m => acallX Try.prog X m F_precentorlaw2_known [] h) Q :=
  Tells.later (q.le fun m => (E_precentorlaw2_known (acallX Try.prog X m) m  h) ▸ acallX_le Try.func22 hx m h)


end Go.Proofs.Ytnlcjindeoaklaa
