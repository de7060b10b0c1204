/-
  Functions of precentorlaw14 in the form of YtbkfamdkdjajjaaABS (printed by a program of ours, gen.lean).
-/
import Derived.Test.YtbkfamdkdjajjaaSIds
set_option linter.unusedVariables false
namespace Go.Proofs.Ytbkfamdkdjajjaa
open Go.Ab
/-! ### precentor/precentorlaw14.SeqOwn -/
def J_precentorlaw14_SeqOwn_1 (P : Program) (call : FuncId → List AVal → Heap → Res AVal) (fuel : Nat) (k : Kn (AVal)) (t : T) (h : Heap) : Res (AVal) :=
arb (.of (fadR 6 (t 8)) h) call fun v_84 h85 =>
arb (.of (ld1 h85 v_84) h85) call fun v_86 h87 =>
arb (.val (t 0) h87) call fun v_88 h89 =>
arb (.of (aBin P .add 3 (.tmp 88) (.const (.int .i64 1)) v_88 (.int .i64 1)) h89) call fun v_90 h91 =>
arb (.of (ixsR 2 v_86 (.int .i64 0)) h91) call fun v_92 h93 =>
arb (.of (fadR 1 v_92) h93) call fun v_94 h95 =>
arb (stR 1 h95 v_94 v_90) call fun v_96 h97 =>
arb (.val (t 6) h97) call fun v_98 h99 =>
arb (.of (ixsR 2 v_98 (.int .i64 0)) h99) call fun v_100 h101 =>
arb (.of (fadR 1 v_100) h101) call fun v_102 h103 =>
arb (.of (ld1 h103 v_102) h103) call fun v_104 h105 =>
arb (.val (t 0) h105) call fun v_106 h107 =>
arb (.of (aBin P .eql 3 (.tmp 95) (.tmp 96) v_104 v_106) h107) call fun v_108 h109 =>
arb (.val v_108 h109) call fun v_110 h111 =>
gd (wantB v_110 true) (fun c => arb (.val (t 6) h111) call c) h111 fun v_112 h113 =>
gd (wantB v_110 true) (fun c => arb (.of (ixsR 2 v_112 (.int .i64 1)) h113) call c) h113 fun v_114 h115 =>
gd (wantB v_110 true) (fun c => arb (.of (fadR 1 v_114) h115) call c) h115 fun v_116 h117 =>
gd (wantB v_110 true) (fun c => arb (.of (ld1 h117 v_116) h117) call c) h117 fun v_118 h119 =>
gd (wantB v_110 true) (fun c => arb (.of (aBin P .eql 3 (.tmp 102) (.const (.int .i64 7)) v_118 (.int .i64 7)) h119) call c) h119 fun v_120 h121 =>
arb (pkR v_110 v_120 (.bool false) h121) call fun v_122 h123 =>
arb (.val v_122 h123) call fun v_124 h125 =>
gd (wantB v_124 true) (fun c => arb (.val (t 6) h125) call c) h125 fun v_126 h127 =>
gd (wantB v_124 true) (fun c => arb (.of (ixsR 2 v_126 (.int .i64 2)) h127) call c) h127 fun v_128 h129 =>
gd (wantB v_124 true) (fun c => arb (.of (fadR 1 v_128) h129) call c) h129 fun v_130 h131 =>
gd (wantB v_124 true) (fun c => arb (.of (ld1 h131 v_130) h131) call c) h131 fun v_132 h133 =>
gd (wantB v_124 true) (fun c => arb (.of (aBin P .eql 3 (.tmp 109) (.const (.int .i64 8)) v_132 (.int .i64 8)) h133) call c) h133 fun v_134 h135 =>
arb (pkR v_124 v_134 (.bool false) h135) call fun v_136 h137 =>
arb (.val v_136 h137) call fun v_138 h139 =>
gd (wantB v_138 true) (fun c => arb (.of (fadR 6 (t 10)) h139) call c) h139 fun v_140 h141 =>
gd (wantB v_138 true) (fun c => arb (.of (ld1 h141 v_140) h141) call c) h141 fun v_142 h143 =>
gd (wantB v_138 true) (fun c => arb (.of (ixsR 2 v_142 (.int .i64 0)) h143) call c) h143 fun v_144 h145 =>
gd (wantB v_138 true) (fun c => arb (.of (fadR 1 v_144) h145) call c) h145 fun v_146 h147 =>
gd (wantB v_138 true) (fun c => arb (.of (ld1 h147 v_146) h147) call c) h147 fun v_148 h149 =>
gd (wantB v_138 true) (fun c => arb (.val (t 0) h149) call c) h149 fun v_150 h151 =>
gd (wantB v_138 true) (fun c => arb (.of (aBin P .eql 3 (.tmp 117) (.tmp 118) v_148 v_150) h151) call c) h151 fun v_152 h153 =>
arb (pkR v_138 v_152 (.bool false) h153) call fun v_154 h155 =>
arb (.val v_154 h155) call fun v_156 h157 =>
gd (wantB v_156 true) (fun c => arb (.val (t 5) h157) call c) h157 fun v_158 h159 =>
gd (wantB v_156 true) (fun c => arb (.call F_seq_Seq_Count [v_158, (.int .i64 0)] h159) call c) h159 fun v_160 h161 =>
gd (wantB v_156 true) (fun c => arb (.of (aBin P .eql 3 (.tmp 123) (.const (.int .i64 0)) v_160 (.int .i64 0)) h161) call c) h161 fun v_162 h163 =>
arb (pkR v_156 v_162 (.bool false) h163) call fun v_164 h165 =>
arb (.val v_164 h165) call fun v_166 h167 =>
gd (wantB v_166 true) (fun c => arb (.val (t 4) h167) call c) h167 fun v_168 h169 =>
gd (wantB v_166 true) (fun c => arb (.call F_seq_Seq_Count [v_168, (.int .i64 0)] h169) call c) h169 fun v_170 h171 =>
gd (wantB v_166 true) (fun c => arb (.of (aBin P .eql 3 (.tmp 128) (.const (.int .i64 2)) v_170 (.int .i64 2)) h171) call c) h171 fun v_172 h173 =>
arb (pkR v_166 v_172 (.bool false) h173) call fun v_174 h175 =>
arb (.val v_174 h175) call fun v_176 h177 =>
k .ret (upd (upd (upd (upd (upd (upd (upd (upd (upd (upd (upd (upd (upd (upd (upd (upd (upd (upd (upd (upd (upd (upd (upd (upd (upd (upd (upd (upd (upd (upd (upd (upd (upd (upd (upd (upd (upd (upd (upd (upd (upd (upd (upd (upd (upd (upd t 86 v_84) 87 v_86) 88 v_88) 89 v_90) 90 v_92) 91 v_94) 92 v_98) 93 v_100) 94 v_102) 95 v_104) 96 v_106) 97 v_108) 98 v_110) 99 v_112) 100 v_114) 101 v_116) 102 v_118) 103 v_120) 104 v_122) 105 v_124) 106 v_126) 107 v_128) 108 v_130) 109 v_132) 110 v_134) 111 v_136) 112 v_138) 113 v_140) 114 v_142) 115 v_144) 116 v_146) 117 v_148) 118 v_150) 119 v_152) 120 v_154) 121 v_156) 122 v_158) 123 v_160) 124 v_162) 125 v_164) 126 v_166) 127 v_168) 128 v_170) 129 v_172) 130 v_174) 2 v_176) h177

def J_precentorlaw14_SeqOwn_0 (P : Program) (call : FuncId → List AVal → Heap → Res AVal) (fuel : Nat) (k : Kn (AVal)) (t : T) (h : Heap) : Res (AVal) :=
arb (.val (t 0) h) call fun v_22 h23 =>
arb (.of (bldR [(.int .i64 0), (.int .i64 0)] [(0, 1, (.int .i64 9)), (1, 1, v_22)]) h23) call fun v_24 h25 =>
arb (.of (bldR [(.int .i64 0), (.int .i64 0)] [(0, 1, (.int .i64 7)), (1, 1, (.int .i64 7))]) h25) call fun v_26 h27 =>
arb (.of (bldR [(.int .i64 0), (.int .i64 0)] [(0, 1, (.int .i64 8)), (1, 1, (.int .i64 8))]) h27) call fun v_28 h29 =>
arb (bslR 2 [(.int .i64 0), (.int .i64 0), (.int .i64 0), (.int .i64 0), (.int .i64 0), (.int .i64 0)] 3 h29 [(0, 2, v_24), (2, 2, v_26), (4, 2, v_28)]) call fun v_30 h31 =>
arb (.val v_30 h31) call fun full_32 h33 =>
arb (.val full_32 h33) call fun v_34 h35 =>
arb (.of (slcR 2 v_34 none (some (.int .i64 1)) none) h35) call fun v_36 h37 =>
arb (.of (bldR [(.int .i64 0), (.int .i64 0), (.int .i64 0), (.int .i64 0), (.int .i64 0), .nils, .nils] [(6, 1, v_36)]) h37) call fun v_38 h39 =>
arb (newR [(.int .i64 0), (.int .i64 0), (.int .i64 0), (.int .i64 0), (.int .i64 0), .nils, .nils] h39) call fun e_40 h41 =>
arb (stR 7 h41 e_40 v_38) call fun v_42 h43 =>
arb (.val (t 4) h43) call fun v_44 h45 =>
arb (.of (ldn 7 h45 e_40) h45) call fun v_46 h47 =>
arb (bslR 1 [(.int .i64 0), (.int .i64 0)] 2 h47 [(0, 1, (.int .i64 0)), (1, 1, (.int .i64 1))]) call fun v_48 h49 =>
arb (.call F_seq_Seq_Pass [v_44, v_46, v_48] h49) call fun v_50 h51 =>
arb (.val v_50 h51) call fun v_52 h53 =>
arb (extR v_52 0 h53) call fun v_54 h55 =>
arb (extR v_52 1 h55) call fun v_56 h57 =>
arb (newR [(.int .i64 0), (.int .i64 0), (.int .i64 0), (.int .i64 0), (.int .i64 0), .nils, .nils] h57) call fun x_58 h59 =>
arb (stR 7 h59 x_58 v_54) call fun v_60 h61 =>
arb (.val v_56 h61) call fun v_62 h63 =>
arb (.val (t 4) h63) call fun v_64 h65 =>
arb (.of (ldn 7 h65 e_40) h65) call fun v_66 h67 =>
arb (bslR 1 [(.int .i64 0), (.int .i64 0)] 2 h67 [(0, 1, (.int .i64 0)), (1, 1, (.int .i64 1))]) call fun v_68 h69 =>
arb (.call F_seq_Seq_Pass [v_64, v_66, v_68] h69) call fun v_70 h71 =>
arb (.val v_70 h71) call fun v_72 h73 =>
arb (extR v_72 0 h73) call fun v_74 h75 =>
arb (extR v_72 1 h75) call fun v_76 h77 =>
arb (newR [(.int .i64 0), (.int .i64 0), (.int .i64 0), (.int .i64 0), (.int .i64 0), .nils, .nils] h77) call fun y_78 h79 =>
arb (stR 7 h79 y_78 v_74) call fun v_80 h81 =>
arb (.val v_76 h81) call fun v_82 h83 =>
lt (sqK (J_precentorlaw14_SeqOwn_1 P call fuel k) k) fun k178 =>
arb (.of (fadR 6 x_58) h83) call fun v_179 h180 =>
arb (.of (ld1 h180 v_179) h180) call fun v_181 h182 =>
arb (.of (lenL v_181) h182) call fun v_183 h184 =>
arb (.of (aBin P .neq 3 (.tmp 53) (.const (.int .i64 3)) v_183 (.int .i64 3)) h184) call fun v_185 h186 =>
arb (.val v_185 h186) call fun v_187 h188 =>
gd (wantB v_187 false) (fun c => arb (.of (fadR 6 y_78) h188) call c) h188 fun v_189 h190 =>
gd (wantB v_187 false) (fun c => arb (.of (ld1 h190 v_189) h190) call c) h190 fun v_191 h192 =>
gd (wantB v_187 false) (fun c => arb (.of (lenL v_191) h192) call c) h192 fun v_193 h194 =>
gd (wantB v_187 false) (fun c => arb (.of (aBin P .neq 3 (.tmp 58) (.const (.int .i64 3)) v_193 (.int .i64 3)) h194) call c) h194 fun v_195 h196 =>
arb (pkR v_187 (.bool true) v_195 h196) call fun v_197 h198 =>
arb (.val v_197 h198) call fun v_199 h200 =>
gd (wantB v_199 false) (fun c => arb (.of (fadR 6 x_58) h200) call c) h200 fun v_201 h202 =>
gd (wantB v_199 false) (fun c => arb (.of (ld1 h202 v_201) h202) call c) h202 fun v_203 h204 =>
gd (wantB v_199 false) (fun c => arb (.of (ixsR 2 v_203 (.int .i64 0)) h204) call c) h204 fun v_205 h206 =>
gd (wantB v_199 false) (fun c => arb (.of (fadR 1 v_205) h206) call c) h206 fun v_207 h208 =>
gd (wantB v_199 false) (fun c => arb (.of (ld1 h208 v_207) h208) call c) h208 fun v_209 h210 =>
gd (wantB v_199 false) (fun c => arb (.val (t 0) h210) call c) h210 fun v_211 h212 =>
gd (wantB v_199 false) (fun c => arb (.of (aBin P .neq 3 (.tmp 66) (.tmp 67) v_209 v_211) h212) call c) h212 fun v_213 h214 =>
arb (pkR v_199 (.bool true) v_213 h214) call fun v_215 h216 =>
arb (.val v_215 h216) call fun v_217 h218 =>
gd (wantB v_217 false) (fun c => arb (.of (fadR 6 x_58) h218) call c) h218 fun v_219 h220 =>
gd (wantB v_217 false) (fun c => arb (.of (ld1 h220 v_219) h220) call c) h220 fun v_221 h222 =>
gd (wantB v_217 false) (fun c => arb (.of (ixsR 2 v_221 (.int .i64 1)) h222) call c) h222 fun v_223 h224 =>
gd (wantB v_217 false) (fun c => arb (.of (fadR 1 v_223) h224) call c) h224 fun v_225 h226 =>
gd (wantB v_217 false) (fun c => arb (.of (ld1 h226 v_225) h226) call c) h226 fun v_227 h228 =>
gd (wantB v_217 false) (fun c => arb (.of (aBin P .neq 3 (.tmp 75) (.const (.int .i64 1)) v_227 (.int .i64 1)) h228) call c) h228 fun v_229 h230 =>
arb (pkR v_217 (.bool true) v_229 h230) call fun v_231 h232 =>
arb (.val v_231 h232) call fun v_233 h234 =>
gd (wantB v_233 false) (fun c => arb (.of (fadR 6 y_78) h234) call c) h234 fun v_235 h236 =>
gd (wantB v_233 false) (fun c => arb (.of (ld1 h236 v_235) h236) call c) h236 fun v_237 h238 =>
gd (wantB v_233 false) (fun c => arb (.of (ixsR 2 v_237 (.int .i64 1)) h238) call c) h238 fun v_239 h240 =>
gd (wantB v_233 false) (fun c => arb (.of (fadR 1 v_239) h240) call c) h240 fun v_241 h242 =>
gd (wantB v_233 false) (fun c => arb (.of (ld1 h242 v_241) h242) call c) h242 fun v_243 h244 =>
gd (wantB v_233 false) (fun c => arb (.of (aBin P .neq 3 (.tmp 83) (.const (.int .i64 2)) v_243 (.int .i64 2)) h244) call c) h244 fun v_245 h246 =>
arb (pkR v_233 (.bool true) v_245 h246) call fun v_247 h248 =>
cb v_247 (
arb (.val (.bool false) h248) call fun v_249 h250 =>
k178 .ret (upd (upd (upd (upd (upd (upd (upd (upd (upd (upd (upd (upd (upd (upd (upd (upd (upd (upd (upd (upd (upd (upd (upd (upd (upd (upd (upd (upd (upd (upd (upd (upd (upd (upd (upd (upd (upd (upd (upd (upd (upd (upd (upd (upd (upd (upd (upd (upd (upd (upd (upd (upd (upd (upd (upd (upd (upd (upd (upd (upd (upd (upd (upd (upd t 29 v_22) 30 v_24) 31 v_26) 32 v_28) 33 v_30) 6 full_32) 34 v_34) 35 v_36) 36 v_38) 7 e_40) 38 v_44) 39 v_46) 40 v_48) 41 v_50) 37 v_52) 42 v_54) 43 v_56) 8 x_58) 9 v_62) 45 v_64) 46 v_66) 47 v_68) 48 v_70) 44 v_72) 49 v_74) 50 v_76) 10 y_78) 11 v_82) 51 v_179) 52 v_181) 53 v_183) 54 v_185) 55 v_187) 56 v_189) 57 v_191) 58 v_193) 59 v_195) 60 v_197) 61 v_199) 62 v_201) 63 v_203) 64 v_205) 65 v_207) 66 v_209) 67 v_211) 68 v_213) 69 v_215) 70 v_217) 71 v_219) 72 v_221) 73 v_223) 74 v_225) 75 v_227) 76 v_229) 77 v_231) 78 v_233) 79 v_235) 80 v_237) 81 v_239) 82 v_241) 83 v_243) 84 v_245) 85 v_247) 2 v_249) h250) (
k178 .normal (upd (upd (upd (upd (upd (upd (upd (upd (upd (upd (upd (upd (upd (upd (upd (upd (upd (upd (upd (upd (upd (upd (upd (upd (upd (upd (upd (upd (upd (upd (upd (upd (upd (upd (upd (upd (upd (upd (upd (upd (upd (upd (upd (upd (upd (upd (upd (upd (upd (upd (upd (upd (upd (upd (upd (upd (upd (upd (upd (upd (upd (upd (upd t 29 v_22) 30 v_24) 31 v_26) 32 v_28) 33 v_30) 6 full_32) 34 v_34) 35 v_36) 36 v_38) 7 e_40) 38 v_44) 39 v_46) 40 v_48) 41 v_50) 37 v_52) 42 v_54) 43 v_56) 8 x_58) 9 v_62) 45 v_64) 46 v_66) 47 v_68) 48 v_70) 44 v_72) 49 v_74) 50 v_76) 10 y_78) 11 v_82) 51 v_179) 52 v_181) 53 v_183) 54 v_185) 55 v_187) 56 v_189) 57 v_191) 58 v_193) 59 v_195) 60 v_197) 61 v_199) 62 v_201) 63 v_203) 64 v_205) 65 v_207) 66 v_209) 67 v_211) 68 v_213) 69 v_215) 70 v_217) 71 v_219) 72 v_221) 73 v_223) 74 v_225) 75 v_227) 76 v_229) 77 v_231) 78 v_233) 79 v_235) 80 v_237) 81 v_239) 82 v_241) 83 v_243) 84 v_245) 85 v_247) h248)

def S_precentorlaw14_SeqOwn (P : Program) (call : FuncId → List AVal → Heap → Res AVal) (fuel : Nat) (n_a0 : AVal) (h : Heap) : Res AVal :=
lt (retK P [.tmp 2]) fun k =>
arb (.val (.bool false) h) call fun v_0 h1 =>
arb (.of (bldR [(.int .i64 0), (.int .i64 0), (.int .i64 0)] []) h1) call fun v_2 h3 =>
arb (.of (bldR [(.int .i64 0), (.int .i64 0), (.int .i64 0)] [(0, 1, (.int .i64 0)), (1, 1, (.int .i64 1))]) h3) call fun v_4 h5 =>
arb (bslR 3 [(.int .i64 0), (.int .i64 0), (.int .i64 0), (.int .i64 0), (.int .i64 0), (.int .i64 0)] 2 h5 [(0, 3, v_2), (3, 3, v_4)]) call fun v_6 h7 =>
arb (.val v_6 h7) call fun c_8 h9 =>
arb (.val c_8 h9) call fun v_10 h11 =>
arb (.call F_seq_New [v_10, (.int .i64 0)] h11) call fun v_12 h13 =>
arb (.val v_12 h13) call fun a_14 h15 =>
arb (.val c_8 h15) call fun v_16 h17 =>
arb (.call F_seq_New [v_16, (.int .i64 0)] h17) call fun v_18 h19 =>
arb (.val v_18 h19) call fun b_20 h21 =>
lt (sqK (J_precentorlaw14_SeqOwn_0 P call fuel k) k) fun k251 =>
arb (.call F_precentorlaw14_known [] h21) call fun v_252 h253 =>
arb (.of (aUn P .not v_252) h253) call fun v_254 h255 =>
arb (.val v_254 h255) call fun v_256 h257 =>
gd (wantB v_256 false) (fun c => arb (.val a_14 h257) call c) h257 fun v_258 h259 =>
gd (wantB v_256 false) (fun c => arb (.of (aBin P .eql 25 (.tmp 22) (.const (.pointer none)) v_258 .nilp) h259) call c) h259 fun v_260 h261 =>
arb (pkR v_256 (.bool true) v_260 h261) call fun v_262 h263 =>
arb (.val v_262 h263) call fun v_264 h265 =>
gd (wantB v_264 false) (fun c => arb (.val b_20 h265) call c) h265 fun v_266 h267 =>
gd (wantB v_264 false) (fun c => arb (.of (aBin P .eql 25 (.tmp 26) (.const (.pointer none)) v_266 .nilp) h267) call c) h267 fun v_268 h269 =>
arb (pkR v_264 (.bool true) v_268 h269) call fun v_270 h271 =>
cb v_270 (
arb (.val (.bool false) h271) call fun v_272 h273 =>
k251 .ret (upd (upd (upd (upd (upd (upd (upd (upd (upd (upd (upd (upd (upd (upd (upd (upd (upd (upd (upd (upd (upd (upd (enterT [n_a0]) 2 v_0) 12 v_2) 13 v_4) 14 v_6) 3 c_8) 15 v_10) 16 v_12) 4 a_14) 17 v_16) 18 v_18) 5 b_20) 19 v_252) 20 v_254) 21 v_256) 22 v_258) 23 v_260) 24 v_262) 25 v_264) 26 v_266) 27 v_268) 28 v_270) 2 v_272) h273) (
k251 .normal (upd (upd (upd (upd (upd (upd (upd (upd (upd (upd (upd (upd (upd (upd (upd (upd (upd (upd (upd (upd (upd (enterT [n_a0]) 2 v_0) 12 v_2) 13 v_4) 14 v_6) 3 c_8) 15 v_10) 16 v_12) 4 a_14) 17 v_16) 18 v_18) 5 b_20) 19 v_252) 20 v_254) 21 v_256) 22 v_258) 23 v_260) 24 v_262) 25 v_264) 26 v_266) 27 v_268) 28 v_270) h271)
theorem E_precentorlaw14_SeqOwn (call : FuncId → List AVal → Heap → Res AVal) (fuel : Nat) (n_a0 : AVal) (h : Heap) : bodyR Try.prog call fuel Try.f4 [n_a0] h = S_precentorlaw14_SeqOwn Try.prog call fuel n_a0 h := by kernel_rfl
theorem R_precentorlaw14_SeqOwn {X : XTab} (n_a0 : AVal) {h : Heap} {Q : AVal → Heap → Prop} (hx : X F_precentorlaw14_SeqOwn [n_a0] = none) (q : Tells (fun m => S_precentorlaw14_SeqOwn Try.prog (acallX Try.prog X m) m n_a0 h) Q) :
    Tells (fun m => acallX Try.prog X m F_precentorlaw14_SeqOwn [n_a0] h) Q :=
  Tells.later (q.le fun m => (E_precentorlaw14_SeqOwn (acallX Try.prog X m) m n_a0 h) ▸ acallX_le Try.func4 hx m h)

/-! ### precentor/precentorlaw14.SeqTells -/
def J_precentorlaw14_SeqTells_2 (P : Program) (call : FuncId → List AVal → Heap → Res AVal) (fuel : Nat) (k : Kn (AVal)) (t : T) (h : Heap) : Res (AVal) :=
arb (.val (.bool true) h) call fun v_60 h61 =>
k .ret (upd t 6 v_60) h61

def J_precentorlaw14_SeqTells_5 (P : Program) (call : FuncId → List AVal → Heap → Res AVal) (fuel : Nat) (k : Kn (Ex × T)) (t : T) (h : Heap) : Res (Ex × T) :=
arb (.val (t 21) h) call fun v_66 h67 =>
arb (.of (aBin P .add 3 (.tmp 120) (.const (.int .i64 1)) v_66 (.int .i64 1)) h67) call fun v_68 h69 =>
arb (.val v_68 h69) call fun i_70 h71 =>
k .normal (upd (upd (upd t 120 v_66) 121 v_68) 21 i_70) h71

def J_precentorlaw14_SeqTells_4 (P : Program) (call : FuncId → List AVal → Heap → Res AVal) (fuel : Nat) (k : Kn (Ex × T)) (t : T) (h : Heap) : Res (Ex × T) :=
lt (sqK (J_precentorlaw14_SeqTells_5 P call fuel k) k) fun k72 =>
lt (blkK 3 k72) fun k73 =>
arb (.val (t 12) h) call fun v_74 h75 =>
arb (.val (t 21) h75) call fun v_76 h77 =>
arb (.call F_seq_Seq_Count [v_74, v_76] h77) call fun v_78 h79 =>
arb (.val (t 13) h79) call fun v_80 h81 =>
arb (.val (t 21) h81) call fun v_82 h83 =>
arb (.call F_precentorref14_Seq_Count [v_80, v_82] h83) call fun v_84 h85 =>
arb (.of (aBin P .neq 3 (.tmp 124) (.tmp 127) v_78 v_84) h85) call fun v_86 h87 =>
cb v_86 (
arb (.val (.bool false) h87) call fun v_88 h89 =>
k73 .ret (upd (upd (upd (upd (upd (upd (upd (upd t 122 v_74) 123 v_76) 124 v_78) 125 v_80) 126 v_82) 127 v_84) 128 v_86) 6 v_88) h89) (
k73 .normal (upd (upd (upd (upd (upd (upd (upd t 122 v_74) 123 v_76) 124 v_78) 125 v_80) 126 v_82) 127 v_84) 128 v_86) h87)

def L_precentorlaw14_SeqTells_3 (P : Program) (call : FuncId → List AVal → Heap → Res AVal) (fuel : Nat) (t : T) (h : Heap) : Res (Ex × T) :=
lt okK fun k =>
lt (sqK (J_precentorlaw14_SeqTells_4 P call fuel k) k) fun k90 =>
arb (.val (t 21) h) call fun v_91 h92 =>
arb (.val (t 8) h92) call fun v_93 h94 =>
arb (.of (lenL v_93) h94) call fun v_95 h96 =>
arb (.of (aBin P .leq 3 (.tmp 116) (.tmp 118) v_91 v_95) h96) call fun v_97 h98 =>
cb v_97 (
k90 .normal (upd (upd (upd (upd t 116 v_91) 117 v_93) 118 v_95) 119 v_97) h98) (
k90 (.exit 2) (upd (upd (upd (upd t 116 v_91) 117 v_93) 118 v_95) 119 v_97) h98)

def J_precentorlaw14_SeqTells_1 (P : Program) (call : FuncId → List AVal → Heap → Res AVal) (fuel : Nat) (k : Kn (AVal)) (t : T) (h : Heap) : Res (AVal) :=
lt (sqK (J_precentorlaw14_SeqTells_2 P call fuel k) k) fun k62 =>
arb (.val (.int .i64 (-1)) h) call fun i_63 h64 =>
lt (blkK 2 k62) fun k65 =>
(loopN (L_precentorlaw14_SeqTells_3 P call fuel) fuel (upd t 21 i_63) h64).bind (lpK k65)

def J_precentorlaw14_SeqTells_8 (P : Program) (call : FuncId → List AVal → Heap → Res AVal) (fuel : Nat) (k : Kn (Ex × T)) (t : T) (h : Heap) : Res (Ex × T) :=
arb (.val (t 14) h) call fun v_103 h104 =>
arb (.of (aBin P .add 3 (.tmp 57) (.const (.int .i64 1)) v_103 (.int .i64 1)) h104) call fun v_105 h106 =>
arb (.val v_105 h106) call fun i_107 h108 =>
k .normal (upd (upd (upd t 57 v_103) 58 v_105) 14 i_107) h108

def J_precentorlaw14_SeqTells_7 (P : Program) (call : FuncId → List AVal → Heap → Res AVal) (fuel : Nat) (k : Kn (Ex × T)) (t : T) (h : Heap) : Res (Ex × T) :=
lt (sqK (J_precentorlaw14_SeqTells_8 P call fuel k) k) fun k109 =>
lt (blkK 1 k109) fun k110 =>
arb (.val (t 7) h) call fun v_111 h112 =>
arb (.call F_precentorhand_Feed_Event [v_111] h112) call fun v_113 h114 =>
arb (newR [(.int .i64 0), (.int .i64 0), (.int .i64 0), (.int .i64 0), (.int .i64 0), .nils, .nils] h114) call fun e_115 h116 =>
arb (stR 7 h116 e_115 v_113) call fun v_117 h118 =>
arb (.val (t 1) h118) call fun v_119 h120 =>
arb (.val (t 14) h120) call fun v_121 h122 =>
arb (.of (ixsR 1 v_119 v_121) h122) call fun v_123 h124 =>
arb (.of (ld1 h124 v_123) h124) call fun v_125 h126 =>
arb (.val (t 8) h126) call fun v_127 h128 =>
arb (.of (lenL v_127) h128) call fun v_129 h130 =>
arb (.of (aBin P .add 3 (.tmp 66) (.const (.int .i64 3)) v_129 (.int .i64 3)) h130) call fun v_131 h132 =>
arb (.call F_precentorhand_Pick [v_125, v_131] h132) call fun v_133 h134 =>
arb (.of (aBin P .sub 3 (.tmp 68) (.const (.int .i64 1)) v_133 (.int .i64 1)) h134) call fun v_135 h136 =>
arb (.of (fadR 4 e_115) h136) call fun v_137 h138 =>
arb (stR 1 h138 v_137 v_135) call fun v_139 h140 =>
arb (.val (t 10) h140) call fun v_141 h142 =>
arb (.val (t 1) h142) call fun v_143 h144 =>
arb (.val (t 14) h144) call fun v_145 h146 =>
arb (.of (ixsR 1 v_143 v_145) h146) call fun v_147 h148 =>
arb (.of (ld1 h148 v_147) h148) call fun v_149 h150 =>
arb (.of (aBin P .quo 3 (.tmp 75) (.const (.int .i64 32)) v_149 (.int .i64 32)) h150) call fun v_151 h152 =>
arb (.call F_precentorhand_Pick [v_151, (.int .i64 4)] h152) call fun v_153 h154 =>
arb (.of (ixsR 1 v_141 v_153) h154) call fun v_155 h156 =>
arb (.of (ld1 h156 v_155) h156) call fun v_157 h158 =>
arb (.val v_157 h158) call fun way_159 h160 =>
obv (.val (t 12) h160) fun v_161 =>
obv (.of (ldn 7 h160 e_115) h160) fun v_163 => ifb true <|
arbV (bslR 1 [] 0 h160 []) fun v_165 h166 =>
obv (.val way_159 h166) fun v_167 =>
arbE (appR 1 8 h166 v_165 v_167) call fun v_169 h170 => lt h170 fun g170 => ifb (true && (isV v_163 (arVal (.of (ldn 7 (killIf true g170 h160.next) e_115) (killIf true g170 h160.next))) && true)) <|
arbE (.call F_seq_Seq_Pass [v_161, v_163, v_169] g170) call fun v_171 h172 => lt h172 fun g172 => ifb (true && true) <|
obv (.val v_171 g172) fun v_173 =>
obv (extR v_173 0 g172) fun v_175 =>
obv (extR v_173 1 g172) fun v_177 =>
arbV (newR [(.int .i64 0), (.int .i64 0), (.int .i64 0), (.int .i64 0), (.int .i64 0), .nils, .nils] g172) fun x_179 h180 =>
arbE (stR 7 h180 x_179 v_175) call fun v_181 h182 => lt h182 fun g182 => ifb (true && true) <|
obv (.val v_177 g182) fun a_183 =>
arb (.val (t 13) g182) call fun v_185 h186 =>
arb (.of (ldn 7 h186 e_115) h186) call fun v_187 h188 =>
arb (.val way_159 h188) call fun v_189 h190 =>
arb (.call F_precentorref14_Seq_Pass [v_185, v_187, v_189] h190) call fun v_191 h192 =>
arb (.val v_191 h192) call fun v_193 h194 =>
arb (extR v_193 0 h194) call fun v_195 h196 =>
arb (extR v_193 1 h196) call fun v_197 h198 =>
arb (newR [(.int .i64 0), (.int .i64 0), (.int .i64 0), (.int .i64 0), (.int .i64 0), .nils, .nils] h198) call fun y_199 h200 =>
arb (stR 7 h200 y_199 v_195) call fun v_201 h202 =>
arb (.val v_197 h202) call fun b_203 h204 =>
obv (.val a_183 h204) fun v_205 =>
obv (.val b_203 h204) fun v_207 =>
obv (.of (aBin P .neq 4 (.tmp 96) (.tmp 97) v_205 v_207) h204) fun v_209 =>
obv (.val v_209 h204) fun v_211 =>
gdr (wantB v_211 false) (fun c => obv (.of (ldn 7 h204 x_179) h204) fun v_213 => ifb true <|
c true v_213 h204) h204 fun w215 v_213 h215 =>
gdr (wantB v_211 false) (fun c => obv (.of (ldn 7 h215 y_199) h215) fun v_216 => ifb true <|
c true v_216 h215) h215 fun w218 v_216 h218 =>
gdr (wantB v_211 false) (fun c => arbE (.call F_precentorref1_SameEvent [v_213, v_216] h218) call fun v_219 h220 => lt h220 fun g220 => ifb (true && true) <|
c true v_219 g220) h218 fun w221 v_219 h221 =>
gdr (wantB v_211 false) (fun c => obv (.of (aUn P .not v_219) h221) fun v_222 =>
c true v_222 h221) h221 fun w224 v_222 h224 =>
obv (pkR v_211 (.bool true) v_222 h224) fun v_225 =>
obv (.val v_225 h224) fun v_227 =>
gdr (wantB v_227 false) (fun c => obv (.val (t 12) h224) fun v_229 =>
c true v_229 h224) h224 fun w231 v_229 h231 =>
gdr (wantB v_227 false) (fun c => obv (.of (fadR 4 e_115) h231) fun v_232 =>
c true v_232 h231) h231 fun w234 v_232 h234 =>
gdr (wantB v_227 false) (fun c => obv (.of (ld1 h234 v_232) h234) fun v_235 => ifb true <|
c true v_235 h234) h234 fun w237 v_235 h237 =>
gdr (wantB v_227 false) (fun c => arbE (.call F_seq_Seq_Count [v_229, v_235] h237) call fun v_238 h239 => lt h239 fun g239 => ifb (true && true) <|
c true v_238 g239) h237 fun w240 v_238 h240 =>
gdr (wantB v_227 false) (fun c => obv (.val (t 13) h240) fun v_241 =>
c true v_241 h240) h240 fun w243 v_241 h243 =>
gdr (wantB v_227 false) (fun c => obv (.of (fadR 4 e_115) h243) fun v_244 =>
c true v_244 h243) h243 fun w246 v_244 h246 =>
gdr (wantB v_227 false) (fun c => obv (.of (ld1 h246 v_244) h246) fun v_247 => ifb ((!w240 || isV v_247 (arVal (.of (ld1 h237 v_244) h237))) && true) <|
c true v_247 h246) h246 fun w249 v_247 h249 =>
gdr (wantB v_227 false) (fun c => arbE (.call F_precentorref14_Seq_Count [v_241, v_247] h249) call fun v_250 h251 => lt h251 fun g251 => ifb (true && true) <|
c true v_250 g251) h249 fun w252 v_250 h252 =>
gdr (wantB v_227 false) (fun c => obv (.of (aBin P .neq 3 (.tmp 109) (.tmp 113) v_238 v_250) h252) fun v_253 =>
c true v_253 h252) h252 fun w255 v_253 h255 =>
obv (pkR v_227 (.bool true) v_253 h255) fun v_256 =>
cb v_256 (
arb (.val (.bool false) h255) call fun v_258 h259 =>
k110 .ret (upd (upd (upd (upd (upd (upd (upd (upd (upd (upd (upd (upd (upd (upd (upd (upd (upd (upd (upd (upd (upd (upd (upd (upd (upd (upd (upd (upd (upd (upd (upd (upd (upd (upd (upd (upd (upd (upd (upd (upd (upd (upd (upd (upd (upd (upd (upd (upd (upd (upd (upd (upd (upd (upd (upd (upd (upd (upd (upd (upd (upd (upd (upd (upd t 59 v_111) 60 v_113) 15 e_115) 61 v_119) 62 v_121) 63 v_123) 64 v_125) 65 v_127) 66 v_129) 67 v_131) 68 v_133) 69 v_135) 70 v_137) 71 v_141) 72 v_143) 73 v_145) 74 v_147) 75 v_149) 76 v_151) 77 v_153) 78 v_155) 79 v_157) 16 way_159) 81 v_161) 82 v_163) 83 v_165) 84 v_167) 85 v_169) 86 v_171) 80 v_173) 87 v_175) 88 v_177) 17 x_179) 18 a_183) 90 v_185) 91 v_187) 92 v_189) 93 v_191) 89 v_193) 94 v_195) 95 v_197) 19 y_199) 20 b_203) 96 v_205) 97 v_207) 98 v_209) 99 v_211) 100 v_213) 101 v_216) 102 v_219) 103 v_222) 104 v_225) 105 v_227) 106 v_229) 107 v_232) 108 v_235) 109 v_238) 110 v_241) 111 v_244) 112 v_247) 113 v_250) 114 v_253) 115 v_256) 6 v_258) h259) (
k110 .normal (upd (upd (upd (upd (upd (upd (upd (upd (upd (upd (upd (upd (upd (upd (upd (upd (upd (upd (upd (upd (upd (upd (upd (upd (upd (upd (upd (upd (upd (upd (upd (upd (upd (upd (upd (upd (upd (upd (upd (upd (upd (upd (upd (upd (upd (upd (upd (upd (upd (upd (upd (upd (upd (upd (upd (upd (upd (upd (upd (upd (upd (upd (upd t 59 v_111) 60 v_113) 15 e_115) 61 v_119) 62 v_121) 63 v_123) 64 v_125) 65 v_127) 66 v_129) 67 v_131) 68 v_133) 69 v_135) 70 v_137) 71 v_141) 72 v_143) 73 v_145) 74 v_147) 75 v_149) 76 v_151) 77 v_153) 78 v_155) 79 v_157) 16 way_159) 81 v_161) 82 v_163) 83 v_165) 84 v_167) 85 v_169) 86 v_171) 80 v_173) 87 v_175) 88 v_177) 17 x_179) 18 a_183) 90 v_185) 91 v_187) 92 v_189) 93 v_191) 89 v_193) 94 v_195) 95 v_197) 19 y_199) 20 b_203) 96 v_205) 97 v_207) 98 v_209) 99 v_211) 100 v_213) 101 v_216) 102 v_219) 103 v_222) 104 v_225) 105 v_227) 106 v_229) 107 v_232) 108 v_235) 109 v_238) 110 v_241) 111 v_244) 112 v_247) 113 v_250) 114 v_253) 115 v_256) h255)

def L_precentorlaw14_SeqTells_6 (P : Program) (call : FuncId → List AVal → Heap → Res AVal) (fuel : Nat) (t : T) (h : Heap) : Res (Ex × T) :=
lt okK fun k =>
lt (sqK (J_precentorlaw14_SeqTells_7 P call fuel k) k) fun k260 =>
arb (.val (t 14) h) call fun v_261 h262 =>
arb (.val (t 1) h262) call fun v_263 h264 =>
arb (.of (lenL v_263) h264) call fun v_265 h266 =>
arb (.of (aBin P .lss 3 (.tmp 49) (.tmp 51) v_261 v_265) h266) call fun v_267 h268 =>
arb (.val v_267 h268) call fun v_269 h270 =>
gd (wantB v_269 true) (fun c => arb (.val (t 14) h270) call c) h270 fun v_271 h272 =>
gd (wantB v_269 true) (fun c => arb (.of (aBin P .lss 3 (.tmp 54) (.const (.int .i64 12)) v_271 (.int .i64 12)) h272) call c) h272 fun v_273 h274 =>
arb (pkR v_269 v_273 (.bool false) h274) call fun v_275 h276 =>
cb v_275 (
k260 .normal (upd (upd (upd (upd (upd (upd (upd (upd t 49 v_261) 50 v_263) 51 v_265) 52 v_267) 53 v_269) 54 v_271) 55 v_273) 56 v_275) h276) (
k260 (.exit 0) (upd (upd (upd (upd (upd (upd (upd (upd t 49 v_261) 50 v_263) 51 v_265) 52 v_267) 53 v_269) 54 v_271) 55 v_273) 56 v_275) h276)

def J_precentorlaw14_SeqTells_0 (P : Program) (call : FuncId → List AVal → Heap → Res AVal) (fuel : Nat) (k : Kn (AVal)) (t : T) (h : Heap) : Res (AVal) :=
lt (sqK (J_precentorlaw14_SeqTells_1 P call fuel k) k) fun k99 =>
arb (.val (.int .i64 0) h) call fun i_100 h101 =>
lt (blkK 0 k99) fun k102 =>
(loopN (L_precentorlaw14_SeqTells_6 P call fuel) fuel (upd t 14 i_100) h101).bind (lpK k102)

def S_precentorlaw14_SeqTells (P : Program) (call : FuncId → List AVal → Heap → Res AVal) (fuel : Nat) (l_a0 ats_a1 broker_a2 : AVal) (h : Heap) : Res AVal :=
lt (retK P [.tmp 6]) fun k =>
arb (.val (.bool false) h) call fun v_0 h1 =>
arb (.val l_a0 h1) call fun v_2 h3 =>
arb (.of (bldR [.nils, (.int .i64 0)] [(0, 1, v_2)]) h3) call fun v_4 h5 =>
arb (boxR v_4 h5) call fun v_6 h7 =>
arb (.val v_6 h7) call fun f_8 h9 =>
arb (.val f_8 h9) call fun v_10 h11 =>
arb (.call F_precentorlaw14_made [v_10, (.int .i64 4)] h11) call fun v_12 h13 =>
arb (.val v_12 h13) call fun v_14 h15 =>
arb (extR v_14 0 h15) call fun v_16 h17 =>
arb (extR v_14 1 h17) call fun v_18 h19 =>
arb (extR v_14 2 h19) call fun v_20 h21 =>
arb (extR v_14 3 h21) call fun v_22 h23 =>
arb (.val v_16 h23) call fun c_24 h25 =>
arb (.val v_18 h25) call fun d_26 h27 =>
arb (.val v_20 h27) call fun ways_28 h29 =>
arb (.val v_22 h29) call fun p_30 h31 =>
arb (.val broker_a2 h31) call fun v_32 h33 =>
arb (.val p_30 h33) call fun v_34 h35 =>
arb (.of (lenL v_34) h35) call fun v_36 h37 =>
arb (.of (aBin P .add 3 (.tmp 34) (.const (.int .i64 2)) v_36 (.int .i64 2)) h37) call fun v_38 h39 =>
arb (.call F_precentorhand_Pick [v_32, v_38] h39) call fun v_40 h41 =>
arb (.val v_40 h41) call fun broker_42 h43 =>
arb (.val c_24 h43) call fun v_44 h45 =>
arb (.val broker_42 h45) call fun v_46 h47 =>
arb (.call F_seq_New [v_44, v_46] h47) call fun v_48 h49 =>
arb (.val v_48 h49) call fun s_50 h51 =>
arb (.val d_26 h51) call fun v_52 h53 =>
arb (.val broker_42 h53) call fun v_54 h55 =>
arb (.call F_precentorref14_NewSeq [v_52, v_54] h55) call fun v_56 h57 =>
arb (.val v_56 h57) call fun r_58 h59 =>
lt (sqK (J_precentorlaw14_SeqTells_0 P call fuel k) k) fun k277 =>
arb (.call F_precentorlaw14_known [] h59) call fun v_278 h279 =>
arb (.of (aUn P .not v_278) h279) call fun v_280 h281 =>
arb (.val v_280 h281) call fun v_282 h283 =>
gd (wantB v_282 false) (fun c => arb (.val s_50 h283) call c) h283 fun v_284 h285 =>
gd (wantB v_282 false) (fun c => arb (.of (aBin P .eql 25 (.tmp 46) (.const (.pointer none)) v_284 .nilp) h285) call c) h285 fun v_286 h287 =>
arb (pkR v_282 (.bool true) v_286 h287) call fun v_288 h289 =>
cb v_288 (
arb (.val (.bool false) h289) call fun v_290 h291 =>
k277 .ret (upd (upd (upd (upd (upd (upd (upd (upd (upd (upd (upd (upd (upd (upd (upd (upd (upd (upd (upd (upd (upd (upd (upd (upd (upd (upd (upd (upd (upd (upd (upd (upd (upd (upd (upd (upd (upd (enterT [l_a0, ats_a1, broker_a2]) 6 v_0) 22 v_2) 23 v_4) 24 v_6) 7 f_8) 26 v_10) 27 v_12) 25 v_14) 28 v_16) 29 v_18) 30 v_20) 31 v_22) 8 c_24) 9 d_26) 10 ways_28) 11 p_30) 32 v_32) 33 v_34) 34 v_36) 35 v_38) 36 v_40) 2 broker_42) 37 v_44) 38 v_46) 39 v_48) 12 s_50) 40 v_52) 41 v_54) 42 v_56) 13 r_58) 43 v_278) 44 v_280) 45 v_282) 46 v_284) 47 v_286) 48 v_288) 6 v_290) h291) (
k277 .normal (upd (upd (upd (upd (upd (upd (upd (upd (upd (upd (upd (upd (upd (upd (upd (upd (upd (upd (upd (upd (upd (upd (upd (upd (upd (upd (upd (upd (upd (upd (upd (upd (upd (upd (upd (upd (enterT [l_a0, ats_a1, broker_a2]) 6 v_0) 22 v_2) 23 v_4) 24 v_6) 7 f_8) 26 v_10) 27 v_12) 25 v_14) 28 v_16) 29 v_18) 30 v_20) 31 v_22) 8 c_24) 9 d_26) 10 ways_28) 11 p_30) 32 v_32) 33 v_34) 34 v_36) 35 v_38) 36 v_40) 2 broker_42) 37 v_44) 38 v_46) 39 v_48) 12 s_50) 40 v_52) 41 v_54) 42 v_56) 13 r_58) 43 v_278) 44 v_280) 45 v_282) 46 v_284) 47 v_286) 48 v_288) h289)
theorem E_precentorlaw14_SeqTells (call : FuncId → List AVal → Heap → Res AVal) (fuel : Nat) (l_a0 ats_a1 broker_a2 : AVal) (h : Heap) : bodyR Try.prog call fuel Try.f5 [l_a0, ats_a1, broker_a2] h = S_precentorlaw14_SeqTells Try.prog call fuel l_a0 ats_a1 broker_a2 h := by kernel_rfl
theorem R_precentorlaw14_SeqTells {X : XTab} (l_a0 ats_a1 broker_a2 : AVal) {h : Heap} {Q : AVal → Heap → Prop} (hx : X F_precentorlaw14_SeqTells [l_a0, ats_a1, broker_a2] = none) (q : Tells (fun m => S_precentorlaw14_SeqTells Try.prog (acallX Try.prog X m) m l_a0 ats_a1 broker_a2 h) Q) :
    Tells (fun m => acallX Try.prog X m F_precentorlaw14_SeqTells [l_a0, ats_a1, broker_a2] h) Q :=
  Tells.later (q.le fun m => (E_precentorlaw14_SeqTells (acallX Try.prog X m) m l_a0 ats_a1 broker_a2 h) ▸ acallX_le Try.func5 hx m h)

/-! ### precentor/precentorlaw14.SeqNumbers -/
def J_precentorlaw14_SeqNumbers_2 (P : Program) (call : FuncId → List AVal → Heap → Res AVal) (fuel : Nat) (k : Kn (AVal)) (t : T) (h : Heap) : Res (AVal) :=
arb (.call F_precentorlaw14_known [] h) call fun v_42 h43 =>
arb (.val v_42 h43) call fun v_44 h45 =>
k .ret (upd (upd t 182 v_42) 4 v_44) h45

def J_precentorlaw14_SeqNumbers_5 (P : Program) (call : FuncId → List AVal → Heap → Res AVal) (fuel : Nat) (k : Kn (Ex × T)) (t : T) (h : Heap) : Res (Ex × T) :=
arb (.val (t 21) h) call fun v_50 h51 =>
arb (.of (aBin P .add 3 (.tmp 165) (.const (.int .i64 1)) v_50 (.int .i64 1)) h51) call fun v_52 h53 =>
arb (.val v_52 h53) call fun i_54 h55 =>
k .normal (upd (upd (upd t 165 v_50) 166 v_52) 21 i_54) h55

def J_precentorlaw14_SeqNumbers_4 (P : Program) (call : FuncId → List AVal → Heap → Res AVal) (fuel : Nat) (k : Kn (Ex × T)) (t : T) (h : Heap) : Res (Ex × T) :=
lt (sqK (J_precentorlaw14_SeqNumbers_5 P call fuel k) k) fun k56 =>
lt (blkK 9 k56) fun k57 =>
obv (.val (t 10) h) fun v_58 =>
obv (.val (t 6) h) fun v_60 =>
obv (.val (t 21) h) fun v_62 =>
obv (.of (ixsR 3 v_60 v_62) h) fun v_64 =>
obv (.of (fadR 2 v_64) h) fun v_66 =>
obv (.of (ld1 h v_66) h) fun v_68 => ifb true <|
obv (.of (ixsR 1 v_58 v_68) h) fun v_70 =>
obv (.of (ld1 h v_70) h) fun v_72 => ifb true <|
obv (.val (t 21) h) fun v_74 =>
arbE (.call F_seq_Seq_Count [v_72, v_74] h) call fun v_76 h77 => lt h77 fun g77 => ifb (true && true) <|
obv (.val (t 13) g77) fun v_78 =>
obv (.val (t 21) g77) fun v_80 =>
obv (.of (ixsR 1 v_78 v_80) g77) fun v_82 =>
obv (.of (ld1 g77 v_82) g77) fun v_84 => ifb (isV v_84 (arVal (.of (ld1 h v_82) h)) && true) <|
obv (.of (aBin P .neq 3 (.tmp 176) (.tmp 180) v_76 v_84) g77) fun v_86 =>
cb v_86 (
arb (.val (.bool false) g77) call fun v_88 h89 =>
k57 .ret (upd (upd (upd (upd (upd (upd (upd (upd (upd (upd (upd (upd (upd (upd (upd (upd t 167 v_58) 168 v_60) 169 v_62) 170 v_64) 171 v_66) 172 v_68) 173 v_70) 174 v_72) 175 v_74) 176 v_76) 177 v_78) 178 v_80) 179 v_82) 180 v_84) 181 v_86) 4 v_88) h89) (
k57 .normal (upd (upd (upd (upd (upd (upd (upd (upd (upd (upd (upd (upd (upd (upd (upd t 167 v_58) 168 v_60) 169 v_62) 170 v_64) 171 v_66) 172 v_68) 173 v_70) 174 v_72) 175 v_74) 176 v_76) 177 v_78) 178 v_80) 179 v_82) 180 v_84) 181 v_86) g77)

def L_precentorlaw14_SeqNumbers_3 (P : Program) (call : FuncId → List AVal → Heap → Res AVal) (fuel : Nat) (t : T) (h : Heap) : Res (Ex × T) :=
lt okK fun k =>
lt (sqK (J_precentorlaw14_SeqNumbers_4 P call fuel k) k) fun k90 =>
arb (.val (t 21) h) call fun v_91 h92 =>
arb (.val (t 6) h92) call fun v_93 h94 =>
arb (.of (lenL v_93) h94) call fun v_95 h96 =>
arb (.of (aBin P .lss 3 (.tmp 161) (.tmp 163) v_91 v_95) h96) call fun v_97 h98 =>
cb v_97 (
k90 .normal (upd (upd (upd (upd t 161 v_91) 162 v_93) 163 v_95) 164 v_97) h98) (
k90 (.exit 8) (upd (upd (upd (upd t 161 v_91) 162 v_93) 163 v_95) 164 v_97) h98)

def J_precentorlaw14_SeqNumbers_1 (P : Program) (call : FuncId → List AVal → Heap → Res AVal) (fuel : Nat) (k : Kn (AVal)) (t : T) (h : Heap) : Res (AVal) :=
lt (sqK (J_precentorlaw14_SeqNumbers_2 P call fuel k) k) fun k46 =>
arb (.val (.int .i64 0) h) call fun i_47 h48 =>
lt (blkK 8 k46) fun k49 =>
(loopN (L_precentorlaw14_SeqNumbers_3 P call fuel) fuel (upd t 21 i_47) h48).bind (lpK k49)

def J_precentorlaw14_SeqNumbers_8 (P : Program) (call : FuncId → List AVal → Heap → Res AVal) (fuel : Nat) (k : Kn (Ex × T)) (t : T) (h : Heap) : Res (Ex × T) :=
arb (.val (t 14) h) call fun v_103 h104 =>
arb (.of (aBin P .add 3 (.tmp 58) (.const (.int .i64 1)) v_103 (.int .i64 1)) h104) call fun v_105 h106 =>
arb (.val v_105 h106) call fun i_107 h108 =>
k .normal (upd (upd (upd t 58 v_103) 59 v_105) 14 i_107) h108

def J_precentorlaw14_SeqNumbers_14 (P : Program) (call : FuncId → List AVal → Heap → Res AVal) (fuel : Nat) (k : Kn (Ex × T)) (t : T) (h : Heap) : Res (Ex × T) :=
arb (.val (t 20) h) call fun v_144 h145 =>
arb (.of (aBin P .add 3 (.tmp 132) (.const (.int .i64 1)) v_144 (.int .i64 1)) h145) call fun v_146 h147 =>
arb (.val v_146 h147) call fun k_148 h149 =>
k .normal (upd (upd (upd t 132 v_144) 133 v_146) 20 k_148) h149

def J_precentorlaw14_SeqNumbers_13 (P : Program) (call : FuncId → List AVal → Heap → Res AVal) (fuel : Nat) (k : Kn (Ex × T)) (t : T) (h : Heap) : Res (Ex × T) :=
lt (sqK (J_precentorlaw14_SeqNumbers_14 P call fuel k) k) fun k150 =>
lt (blkK 7 k150) fun k151 =>
arb (.val (t 13) h) call fun v_152 h153 =>
arb (.val (t 15) h153) call fun v_154 h155 =>
arb (.val (t 20) h155) call fun v_156 h157 =>
arb (.of (ixsR 1 v_154 v_156) h157) call fun v_158 h159 =>
arb (.of (ld1 h159 v_158) h159) call fun v_160 h161 =>
arb (.of (ixsR 1 v_152 v_160) h161) call fun v_162 h163 =>
arb (.of (ld1 h163 v_162) h163) call fun v_164 h165 =>
arb (.of (aBin P .add 3 (.tmp 140) (.const (.int .i64 1)) v_164 (.int .i64 1)) h165) call fun v_166 h167 =>
arb (.of (ixsR 1 v_152 v_160) h167) call fun v_168 h169 =>
arb (stR 1 h169 v_168 v_166) call fun v_170 h171 =>
obv (.of (fadR 6 (t 16)) h171) fun v_172 =>
obv (.of (ld1 h171 v_172) h171) fun v_173 =>
obv (.val (t 20) h171) fun v_174 =>
obv (.of (ixsR 2 v_173 v_174) h171) fun v_175 =>
obv (.of (ldn 2 h171 v_175) h171) fun v_176 =>
obv (.val (t 15) h171) fun v_177 =>
obv (.val (t 20) h171) fun v_178 =>
obv (.of (ixsR 1 v_177 v_178) h171) fun v_179 =>
obv (.of (ld1 h171 v_179) h171) fun v_180 =>
obv (.val (t 13) h171) fun v_181 =>
obv (.val (t 15) h171) fun v_182 =>
obv (.val (t 20) h171) fun v_183 =>
obv (.of (ixsR 1 v_182 v_183) h171) fun v_184 =>
obv (.of (ld1 h171 v_184) h171) fun v_185 =>
obv (.of (ixsR 1 v_181 v_185) h171) fun v_186 =>
obv (.of (ld1 h171 v_186) h171) fun v_187 =>
obv (.of (bldR [(.int .i64 0), (.int .i64 0)] [(0, 1, v_180), (1, 1, v_187)]) h171) fun v_188 =>
obv (.of (aBin P .neq 35 (.tmp 147) (.tmp 159) v_176 v_188) h171) fun v_189 =>
cb v_189 (
arb (.val (.bool false) h171) call fun v_190 h191 =>
k151 .ret (upd (upd (upd (upd (upd (upd (upd (upd (upd (upd (upd (upd (upd (upd (upd (upd (upd (upd (upd (upd (upd (upd (upd (upd (upd (upd (upd (upd t 134 v_152) 135 v_154) 136 v_156) 137 v_158) 138 v_160) 139 v_162) 140 v_164) 141 v_166) 142 v_168) 143 v_172) 144 v_173) 145 v_174) 146 v_175) 147 v_176) 148 v_177) 149 v_178) 150 v_179) 151 v_180) 152 v_181) 153 v_182) 154 v_183) 155 v_184) 156 v_185) 157 v_186) 158 v_187) 159 v_188) 160 v_189) 4 v_190) h191) (
k151 .normal (upd (upd (upd (upd (upd (upd (upd (upd (upd (upd (upd (upd (upd (upd (upd (upd (upd (upd (upd (upd (upd (upd (upd (upd (upd (upd (upd t 134 v_152) 135 v_154) 136 v_156) 137 v_158) 138 v_160) 139 v_162) 140 v_164) 141 v_166) 142 v_168) 143 v_172) 144 v_173) 145 v_174) 146 v_175) 147 v_176) 148 v_177) 149 v_178) 150 v_179) 151 v_180) 152 v_181) 153 v_182) 154 v_183) 155 v_184) 156 v_185) 157 v_186) 158 v_187) 159 v_188) 160 v_189) h171)

def L_precentorlaw14_SeqNumbers_12 (P : Program) (call : FuncId → List AVal → Heap → Res AVal) (fuel : Nat) (t : T) (h : Heap) : Res (Ex × T) :=
lt okK fun k =>
lt (sqK (J_precentorlaw14_SeqNumbers_13 P call fuel k) k) fun k192 =>
arb (.val (t 20) h) call fun v_193 h194 =>
arb (.val (t 15) h194) call fun v_195 h196 =>
arb (.of (lenL v_195) h196) call fun v_197 h198 =>
arb (.of (aBin P .lss 3 (.tmp 128) (.tmp 130) v_193 v_197) h198) call fun v_199 h200 =>
cb v_199 (
k192 .normal (upd (upd (upd (upd t 128 v_193) 129 v_195) 130 v_197) 131 v_199) h200) (
k192 (.exit 6) (upd (upd (upd (upd t 128 v_193) 129 v_195) 130 v_197) 131 v_199) h200)

def J_precentorlaw14_SeqNumbers_11 (P : Program) (call : FuncId → List AVal → Heap → Res AVal) (fuel : Nat) (k : Kn (Ex × T)) (t : T) (h : Heap) : Res (Ex × T) :=
arb (.val (.int .i64 0) h) call fun k_141 h142 =>
lt (blkK 6 k) fun k143 =>
(loopN (L_precentorlaw14_SeqNumbers_12 P call fuel) fuel (upd t 20 k_141) h142).bind (lpK k143)

def J_precentorlaw14_SeqNumbers_10 (P : Program) (call : FuncId → List AVal → Heap → Res AVal) (fuel : Nat) (k : Kn (Ex × T)) (t : T) (h : Heap) : Res (Ex × T) :=
lt (sqK (J_precentorlaw14_SeqNumbers_11 P call fuel k) k) fun k201 =>
obv (.of (fadR 6 (t 16)) h) fun v_202 =>
obv (.of (ld1 h v_202) h) fun v_203 =>
obv (.of (lenL v_203) h) fun v_204 =>
obv (.val (t 15) h) fun v_205 =>
obv (.of (lenL v_205) h) fun v_206 =>
obv (.of (aBin P .neq 3 (.tmp 112) (.tmp 114) v_204 v_206) h) fun v_207 =>
obv (.val v_207 h) fun v_208 =>
gd (wantB v_208 false) (fun c => obv (.of (fadR 4 (t 16)) h) fun v => c v h) h fun v_209 h210 =>
gd (wantB v_208 false) (fun c => obv (.of (ld1 h210 v_209) h210) fun v => c v h210) h210 fun v_211 h212 =>
gd (wantB v_208 false) (fun c => obv (.val (t 15) h212) fun v => c v h212) h212 fun v_213 h214 =>
gd (wantB v_208 false) (fun c => obv (.val (t 15) h214) fun v => c v h214) h214 fun v_215 h216 =>
gd (wantB v_208 false) (fun c => obv (.of (lenL v_215) h216) fun v => c v h216) h216 fun v_217 h218 =>
gd (wantB v_208 false) (fun c => obv (.of (aBin P .sub 3 (.tmp 121) (.const (.int .i64 1)) v_217 (.int .i64 1)) h218) fun v => c v h218) h218 fun v_219 h220 =>
gd (wantB v_208 false) (fun c => obv (.of (ixsR 1 v_213 v_219) h220) fun v => c v h220) h220 fun v_221 h222 =>
gd (wantB v_208 false) (fun c => obv (.of (ld1 h222 v_221) h222) fun v => c v h222) h222 fun v_223 h224 =>
gd (wantB v_208 false) (fun c => obv (.of (aBin P .add 3 (.tmp 124) (.const (.int .i64 1)) v_223 (.int .i64 1)) h224) fun v => c v h224) h224 fun v_225 h226 =>
gd (wantB v_208 false) (fun c => obv (.of (aBin P .neq 3 (.tmp 118) (.tmp 125) v_211 v_225) h226) fun v => c v h226) h226 fun v_227 h228 =>
obv (pkR v_208 (.bool true) v_227 h228) fun v_229 =>
cb v_229 (
arb (.val (.bool false) h228) call fun v_230 h231 =>
k201 .ret (upd (upd (upd (upd (upd (upd (upd (upd (upd (upd (upd (upd (upd (upd (upd (upd (upd (upd (upd t 110 v_202) 111 v_203) 112 v_204) 113 v_205) 114 v_206) 115 v_207) 116 v_208) 117 v_209) 118 v_211) 119 v_213) 120 v_215) 121 v_217) 122 v_219) 123 v_221) 124 v_223) 125 v_225) 126 v_227) 127 v_229) 4 v_230) h231) (
k201 .normal (upd (upd (upd (upd (upd (upd (upd (upd (upd (upd (upd (upd (upd (upd (upd (upd (upd (upd t 110 v_202) 111 v_203) 112 v_204) 113 v_205) 114 v_206) 115 v_207) 116 v_208) 117 v_209) 118 v_211) 119 v_213) 120 v_215) 121 v_217) 122 v_219) 123 v_221) 124 v_223) 125 v_225) 126 v_227) 127 v_229) h228)

def J_precentorlaw14_SeqNumbers_16 (P : Program) (call : FuncId → List AVal → Heap → Res AVal) (fuel : Nat) (k : Kn (Ex × T)) (t : T) (h : Heap) : Res (Ex × T) :=
arb (.val (t 17) h) call fun v_236 h237 =>
arb (.of (aBin P .add 3 (.tmp 75) (.const (.int .i64 1)) v_236 (.int .i64 1)) h237) call fun v_238 h239 =>
arb (.val v_238 h239) call fun step_240 h241 =>
k .normal (upd (upd (upd t 75 v_236) 76 v_238) 17 step_240) h241

def J_precentorlaw14_SeqNumbers_17 (P : Program) (call : FuncId → List AVal → Heap → Res AVal) (fuel : Nat) (k : Kn (Ex × T)) (t : T) (h : Heap) : Res (Ex × T) :=
obv (.val (t 10) h) fun v_244 =>
obv (.val (t 6) h) fun v_246 =>
obv (.of (fadR 4 (t 16)) h) fun v_248 =>
obv (.of (ld1 h v_248) h) fun v_250 => ifb true <|
obv (.of (ixsR 3 v_246 v_250) h) fun v_252 =>
obv (.of (fadR 2 v_252) h) fun v_254 =>
obv (.of (ld1 h v_254) h) fun v_256 => ifb true <|
obv (.of (ixsR 1 v_244 v_256) h) fun v_258 =>
obv (.of (ld1 h v_258) h) fun v_260 => ifb true <|
obv (.of (ldn 7 h (t 16)) h) fun v_262 => ifb true <|
obv (.val (t 15) h) fun v_264 =>
arbE (.call F_seq_Seq_Pass [v_260, v_262, v_264] h) call fun v_266 h267 => lt h267 fun g267 => ifb (true && true) <|
obv (.val v_266 g267) fun v_268 =>
obv (extR v_268 0 g267) fun v_270 =>
obv (extR v_268 1 g267) fun v_272 =>
arbV (newR [(.int .i64 0), (.int .i64 0), (.int .i64 0), (.int .i64 0), (.int .i64 0), .nils, .nils] g267) fun x_274 h275 =>
arbE (stR 7 h275 x_274 v_270) call fun v_276 h277 => lt h277 fun g277 => ifb (true && true) <|
obv (.val v_272 g277) fun through_278 =>
arb (.of (ldn 7 g277 x_274) g277) call fun v_280 h281 =>
arb (stR 7 h281 (t 16) v_280) call fun v_282 h283 =>
arb (.val through_278 h283) call fun v_284 h285 =>
cb v_284 (
k (.exit 4) (upd (upd (upd (upd (upd (upd (upd (upd (upd (upd (upd (upd (upd (upd (upd (upd (upd (upd (upd t 94 v_244) 95 v_246) 96 v_248) 97 v_250) 98 v_252) 99 v_254) 100 v_256) 101 v_258) 102 v_260) 103 v_262) 104 v_264) 105 v_266) 93 v_268) 106 v_270) 107 v_272) 18 x_274) 19 through_278) 108 v_280) 109 v_284) h285) (
k .normal (upd (upd (upd (upd (upd (upd (upd (upd (upd (upd (upd (upd (upd (upd (upd (upd (upd (upd (upd t 94 v_244) 95 v_246) 96 v_248) 97 v_250) 98 v_252) 99 v_254) 100 v_256) 101 v_258) 102 v_260) 103 v_262) 104 v_264) 105 v_266) 93 v_268) 106 v_270) 107 v_272) 18 x_274) 19 through_278) 108 v_280) 109 v_284) h285)

def L_precentorlaw14_SeqNumbers_15 (P : Program) (call : FuncId → List AVal → Heap → Res AVal) (fuel : Nat) (t : T) (h : Heap) : Res (Ex × T) :=
lt okK fun k =>
lt (sqK (J_precentorlaw14_SeqNumbers_16 P call fuel k) k) fun k242 =>
lt (blkK 5 k242) fun k243 =>
lt (sqK (J_precentorlaw14_SeqNumbers_17 P call fuel k243) k243) fun k286 =>
arb (.val (t 17) h) call fun v_287 h288 =>
arb (.val (t 9) h288) call fun v_289 h290 =>
arb (.of (lenL v_289) h290) call fun v_291 h292 =>
arb (.of (aBin P .gtr 3 (.tmp 77) (.tmp 79) v_287 v_291) h292) call fun v_293 h294 =>
arb (.val v_293 h294) call fun v_295 h296 =>
gd (wantB v_295 false) (fun c => arb (.of (fadR 4 (t 16)) h296) call c) h296 fun v_297 h298 =>
gd (wantB v_295 false) (fun c => arb (.of (ld1 h298 v_297) h298) call c) h298 fun v_299 h300 =>
gd (wantB v_295 false) (fun c => arb (.of (aBin P .lss 3 (.tmp 83) (.const (.int .i64 0)) v_299 (.int .i64 0)) h300) call c) h300 fun v_301 h302 =>
arb (pkR v_295 (.bool true) v_301 h302) call fun v_303 h304 =>
arb (.val v_303 h304) call fun v_305 h306 =>
gd (wantB v_305 false) (fun c => arb (.of (fadR 4 (t 16)) h306) call c) h306 fun v_307 h308 =>
gd (wantB v_305 false) (fun c => arb (.of (ld1 h308 v_307) h308) call c) h308 fun v_309 h310 =>
gd (wantB v_305 false) (fun c => arb (.val (t 6) h310) call c) h310 fun v_311 h312 =>
gd (wantB v_305 false) (fun c => arb (.of (lenL v_311) h312) call c) h312 fun v_313 h314 =>
gd (wantB v_305 false) (fun c => arb (.of (aBin P .geq 3 (.tmp 88) (.tmp 90) v_309 v_313) h314) call c) h314 fun v_315 h316 =>
arb (pkR v_305 (.bool true) v_315 h316) call fun v_317 h318 =>
cb v_317 (
arb (.val (.bool false) h318) call fun v_319 h320 =>
k286 .ret (upd (upd (upd (upd (upd (upd (upd (upd (upd (upd (upd (upd (upd (upd (upd (upd (upd t 77 v_287) 78 v_289) 79 v_291) 80 v_293) 81 v_295) 82 v_297) 83 v_299) 84 v_301) 85 v_303) 86 v_305) 87 v_307) 88 v_309) 89 v_311) 90 v_313) 91 v_315) 92 v_317) 4 v_319) h320) (
k286 .normal (upd (upd (upd (upd (upd (upd (upd (upd (upd (upd (upd (upd (upd (upd (upd (upd t 77 v_287) 78 v_289) 79 v_291) 80 v_293) 81 v_295) 82 v_297) 83 v_299) 84 v_301) 85 v_303) 86 v_305) 87 v_307) 88 v_309) 89 v_311) 90 v_313) 91 v_315) 92 v_317) h318)

def J_precentorlaw14_SeqNumbers_9 (P : Program) (call : FuncId → List AVal → Heap → Res AVal) (fuel : Nat) (k : Kn (Ex × T)) (t : T) (h : Heap) : Res (Ex × T) :=
arb (.val (t 15) h) call fun v_129 h130 =>
arb (.of (ixsR 1 v_129 (.int .i64 0)) h130) call fun v_131 h132 =>
arb (.of (ld1 h132 v_131) h132) call fun v_133 h134 =>
arb (.of (bldR [(.int .i64 0), (.int .i64 0), (.int .i64 0), (.int .i64 0), (.int .i64 0), .nils, .nils] [(4, 1, v_133)]) h134) call fun v_135 h136 =>
arb (newR [(.int .i64 0), (.int .i64 0), (.int .i64 0), (.int .i64 0), (.int .i64 0), .nils, .nils] h136) call fun e_137 h138 =>
arb (stR 7 h138 e_137 v_135) call fun v_139 h140 =>
lt (sqK (J_precentorlaw14_SeqNumbers_10 P call fuel k) k) fun k232 =>
arb (.val (.int .i64 0) h140) call fun step_233 h234 =>
lt (blkK 4 k232) fun k235 =>
(loopN (L_precentorlaw14_SeqNumbers_15 P call fuel) fuel (upd (upd (upd (upd (upd (upd t 71 v_129) 72 v_131) 73 v_133) 74 v_135) 16 e_137) 17 step_233) h234).bind (lpK k235)

def J_precentorlaw14_SeqNumbers_7 (P : Program) (call : FuncId → List AVal → Heap → Res AVal) (fuel : Nat) (k : Kn (Ex × T)) (t : T) (h : Heap) : Res (Ex × T) :=
lt (sqK (J_precentorlaw14_SeqNumbers_8 P call fuel k) k) fun k109 =>
lt (blkK 3 k109) fun k110 =>
arb (.val (t 8) h) call fun v_111 h112 =>
arb (.val (t 1) h112) call fun v_113 h114 =>
arb (.val (t 14) h114) call fun v_115 h116 =>
arb (.of (ixsR 1 v_113 v_115) h116) call fun v_117 h118 =>
arb (.of (ld1 h118 v_117) h118) call fun v_119 h120 =>
arb (.call F_precentorhand_Pick [v_119, (.int .i64 5)] h120) call fun v_121 h122 =>
arb (.of (ixsR 1 v_111 v_121) h122) call fun v_123 h124 =>
arb (.of (ld1 h124 v_123) h124) call fun v_125 h126 =>
arb (.val v_125 h126) call fun way_127 h128 =>
lt (sqK (J_precentorlaw14_SeqNumbers_9 P call fuel k110) k110) fun k321 =>
arb (.val way_127 h128) call fun v_322 h323 =>
arb (.of (lenL v_322) h323) call fun v_324 h325 =>
arb (.of (aBin P .eql 3 (.tmp 69) (.const (.int .i64 0)) v_324 (.int .i64 0)) h325) call fun v_326 h327 =>
cb v_326 (
k321 (.exit 3) (upd (upd (upd (upd (upd (upd (upd (upd (upd (upd (upd (upd t 60 v_111) 61 v_113) 62 v_115) 63 v_117) 64 v_119) 65 v_121) 66 v_123) 67 v_125) 15 way_127) 68 v_322) 69 v_324) 70 v_326) h327) (
k321 .normal (upd (upd (upd (upd (upd (upd (upd (upd (upd (upd (upd (upd t 60 v_111) 61 v_113) 62 v_115) 63 v_117) 64 v_119) 65 v_121) 66 v_123) 67 v_125) 15 way_127) 68 v_322) 69 v_324) 70 v_326) h327)

def L_precentorlaw14_SeqNumbers_6 (P : Program) (call : FuncId → List AVal → Heap → Res AVal) (fuel : Nat) (t : T) (h : Heap) : Res (Ex × T) :=
lt okK fun k =>
lt (sqK (J_precentorlaw14_SeqNumbers_7 P call fuel k) k) fun k328 =>
arb (.val (t 14) h) call fun v_329 h330 =>
arb (.val (t 1) h330) call fun v_331 h332 =>
arb (.of (lenL v_331) h332) call fun v_333 h334 =>
arb (.of (aBin P .lss 3 (.tmp 50) (.tmp 52) v_329 v_333) h334) call fun v_335 h336 =>
arb (.val v_335 h336) call fun v_337 h338 =>
gd (wantB v_337 true) (fun c => arb (.val (t 14) h338) call c) h338 fun v_339 h340 =>
gd (wantB v_337 true) (fun c => arb (.of (aBin P .lss 3 (.tmp 55) (.const (.int .i64 20)) v_339 (.int .i64 20)) h340) call c) h340 fun v_341 h342 =>
arb (pkR v_337 v_341 (.bool false) h342) call fun v_343 h344 =>
cb v_343 (
k328 .normal (upd (upd (upd (upd (upd (upd (upd (upd t 50 v_329) 51 v_331) 52 v_333) 53 v_335) 54 v_337) 55 v_339) 56 v_341) 57 v_343) h344) (
k328 (.exit 2) (upd (upd (upd (upd (upd (upd (upd (upd t 50 v_329) 51 v_331) 52 v_333) 53 v_335) 54 v_337) 55 v_339) 56 v_341) 57 v_343) h344)

def J_precentorlaw14_SeqNumbers_0 (P : Program) (call : FuncId → List AVal → Heap → Res AVal) (fuel : Nat) (k : Kn (AVal)) (t : T) (h : Heap) : Res (AVal) :=
arb (.val (t 6) h) call fun v_34 h35 =>
arb (.of (lenL v_34) h35) call fun v_36 h37 =>
arb (makR 1 8 [(.int .i64 0)] h37 v_36 v_36) call fun v_38 h39 =>
arb (.val v_38 h39) call fun given_40 h41 =>
lt (sqK (J_precentorlaw14_SeqNumbers_1 P call fuel k) k) fun k99 =>
arb (.val (.int .i64 0) h41) call fun i_100 h101 =>
lt (blkK 2 k99) fun k102 =>
(loopN (L_precentorlaw14_SeqNumbers_6 P call fuel) fuel (upd (upd (upd (upd (upd t 47 v_34) 48 v_36) 49 v_38) 13 given_40) 14 i_100) h101).bind (lpK k102)

def J_precentorlaw14_SeqNumbers_20 (P : Program) (call : FuncId → List AVal → Heap → Res AVal) (fuel : Nat) (k : Kn (Ex × T)) (t : T) (h : Heap) : Res (Ex × T) :=
arb (.val (t 11) h) call fun v_349 h350 =>
arb (.of (aBin P .add 3 (.tmp 36) (.const (.int .i64 1)) v_349 (.int .i64 1)) h350) call fun v_351 h352 =>
arb (.val v_351 h352) call fun b_353 h354 =>
k .normal (upd (upd (upd t 36 v_349) 37 v_351) 11 b_353) h354

def J_precentorlaw14_SeqNumbers_21 (P : Program) (call : FuncId → List AVal → Heap → Res AVal) (fuel : Nat) (k : Kn (Ex × T)) (t : T) (h : Heap) : Res (Ex × T) :=
arb (.val (t 10) h) call fun v_365 h366 =>
arb (.val (t 12) h366) call fun v_367 h368 =>
arb (bslR 1 [.nilp] 1 h368 [(0, 1, v_367)]) call fun v_369 h370 =>
arb (appR 1 8 h370 v_365 v_369) call fun v_371 h372 =>
arb (.val v_371 h372) call fun all_373 h374 =>
k .normal (upd (upd (upd (upd (upd t 43 v_365) 44 v_367) 45 v_369) 46 v_371) 10 all_373) h374

def J_precentorlaw14_SeqNumbers_19 (P : Program) (call : FuncId → List AVal → Heap → Res AVal) (fuel : Nat) (k : Kn (Ex × T)) (t : T) (h : Heap) : Res (Ex × T) :=
lt (sqK (J_precentorlaw14_SeqNumbers_20 P call fuel k) k) fun k355 =>
lt (blkK 1 k355) fun k356 =>
arb (.val (t 6) h) call fun v_357 h358 =>
arb (.val (t 11) h358) call fun v_359 h360 =>
arb (.call F_seq_New [v_357, v_359] h360) call fun v_361 h362 =>
arb (.val v_361 h362) call fun s_363 h364 =>
lt (sqK (J_precentorlaw14_SeqNumbers_21 P call fuel k356) k356) fun k375 =>
arb (.val s_363 h364) call fun v_376 h377 =>
arb (.of (aBin P .eql 25 (.tmp 41) (.const (.pointer none)) v_376 .nilp) h377) call fun v_378 h379 =>
cb v_378 (
arb (.val (.bool false) h379) call fun v_380 h381 =>
k375 .ret (upd (upd (upd (upd (upd (upd (upd t 38 v_357) 39 v_359) 40 v_361) 12 s_363) 41 v_376) 42 v_378) 4 v_380) h381) (
k375 .normal (upd (upd (upd (upd (upd (upd t 38 v_357) 39 v_359) 40 v_361) 12 s_363) 41 v_376) 42 v_378) h379)

def L_precentorlaw14_SeqNumbers_18 (P : Program) (call : FuncId → List AVal → Heap → Res AVal) (fuel : Nat) (t : T) (h : Heap) : Res (Ex × T) :=
lt okK fun k =>
lt (sqK (J_precentorlaw14_SeqNumbers_19 P call fuel k) k) fun k382 =>
arb (.val (t 11) h) call fun v_383 h384 =>
arb (.val (t 9) h384) call fun v_385 h386 =>
arb (.of (lenL v_385) h386) call fun v_387 h388 =>
arb (.of (aBin P .leq 3 (.tmp 32) (.tmp 34) v_383 v_387) h388) call fun v_389 h390 =>
cb v_389 (
k382 .normal (upd (upd (upd (upd t 32 v_383) 33 v_385) 34 v_387) 35 v_389) h390) (
k382 (.exit 0) (upd (upd (upd (upd t 32 v_383) 33 v_385) 34 v_387) 35 v_389) h390)

def S_precentorlaw14_SeqNumbers (P : Program) (call : FuncId → List AVal → Heap → Res AVal) (fuel : Nat) (l_a0 picks_a1 : AVal) (h : Heap) : Res AVal :=
lt (retK P [.tmp 4]) fun k =>
arb (.val (.bool false) h) call fun v_0 h1 =>
arb (.val l_a0 h1) call fun v_2 h3 =>
arb (.of (bldR [.nils, (.int .i64 0)] [(0, 1, v_2)]) h3) call fun v_4 h5 =>
arb (boxR v_4 h5) call fun v_6 h7 =>
arb (.val v_6 h7) call fun f_8 h9 =>
arb (.val f_8 h9) call fun v_10 h11 =>
arb (.call F_precentorlaw14_made [v_10, (.int .i64 5)] h11) call fun v_12 h13 =>
arb (.val v_12 h13) call fun v_14 h15 =>
arb (extR v_14 0 h15) call fun v_16 h17 =>
arb (extR v_14 1 h17) call fun v_18 h19 =>
arb (extR v_14 2 h19) call fun v_20 h21 =>
arb (extR v_14 3 h21) call fun v_22 h23 =>
arb (.val v_16 h23) call fun c_24 h25 =>
arb (.val v_18 h25) call fun v_26 h27 =>
arb (.val v_20 h27) call fun ways_28 h29 =>
arb (.val v_22 h29) call fun p_30 h31 =>
arb (.val .nils h31) call fun all_32 h33 =>
lt (sqK (J_precentorlaw14_SeqNumbers_0 P call fuel k) k) fun k345 =>
arb (.val (.int .i64 0) h33) call fun b_346 h347 =>
lt (blkK 0 k345) fun k348 =>
(loopN (L_precentorlaw14_SeqNumbers_18 P call fuel) fuel (upd (upd (upd (upd (upd (upd (upd (upd (upd (upd (upd (upd (upd (upd (upd (upd (upd (upd (enterT [l_a0, picks_a1]) 4 v_0) 22 v_2) 23 v_4) 24 v_6) 5 f_8) 26 v_10) 27 v_12) 25 v_14) 28 v_16) 29 v_18) 30 v_20) 31 v_22) 6 c_24) 7 v_26) 8 ways_28) 9 p_30) 10 all_32) 11 b_346) h347).bind (lpK k348)
theorem E_precentorlaw14_SeqNumbers (call : FuncId → List AVal → Heap → Res AVal) (fuel : Nat) (l_a0 picks_a1 : AVal) (h : Heap) : bodyR Try.prog call fuel Try.f6 [l_a0, picks_a1] h = S_precentorlaw14_SeqNumbers Try.prog call fuel l_a0 picks_a1 h := by kernel_rfl
theorem R_precentorlaw14_SeqNumbers {X : XTab} (l_a0 picks_a1 : AVal) {h : Heap} {Q : AVal → Heap → Prop} (hx : X F_precentorlaw14_SeqNumbers [l_a0, picks_a1] = none) (q : Tells (fun m => S_precentorlaw14_SeqNumbers Try.prog (acallX Try.prog X m) m l_a0 picks_a1 h) Q) :
    Tells (fun m => acallX Try.prog X m F_precentorlaw14_SeqNumbers [l_a0, picks_a1] h) Q :=
  Tells.later (q.le fun m => (E_precentorlaw14_SeqNumbers (acallX Try.prog X m) m l_a0 picks_a1 h) ▸ acallX_le Try.func6 hx m h)

/-! ### precentor/precentorlaw14.known -/

def S_precentorlaw14_known (P : Program) (call : FuncId → List AVal → Heap → Res AVal) (fuel : Nat) (h : Heap) : Res AVal :=
lt (retK P [.tmp 0]) fun k =>
arb (.val (.bool false) h) call fun v_0 h1 =>
arb (.call F_precentorlaw14_SeqKnown [] h1) call fun v_2 h3 =>
arb (.val v_2 h3) call fun v_4 h5 =>
k .ret (upd (upd (upd (enterT []) 0 v_0) 1 v_2) 0 v_4) h5
theorem E_precentorlaw14_known (call : FuncId → List AVal → Heap → Res AVal) (fuel : Nat) (h : Heap) : bodyR Try.prog call fuel Try.f10 [] h = S_precentorlaw14_known Try.prog call fuel  h := by kernel_rfl
theorem R_precentorlaw14_known {X : XTab} {h : Heap} {Q : AVal → Heap → Prop} (hx : X F_precentorlaw14_known [] = none) (q : Tells (fun m => S_precentorlaw14_known Try.prog (acallX Try.prog X m) m  h) Q) :
    Tells (fun m => acallX Try.prog X m F_precentorlaw14_known [] h) Q :=
  Tells.later (q.le fun m => (E_precentorlaw14_known (acallX Try.prog X m) m  h) ▸ acallX_le Try.func10 hx m h)

/-! ### precentor/precentorlaw14.made -/
def J_precentorlaw14_made_1 (P : Program) (call : FuncId → List AVal → Heap → Res AVal) (fuel : Nat) (k : Kn (AVal)) (t : T) (h : Heap) : Res (AVal) :=
arb (.val (t 11) h) call fun v_34 h35 =>
arb (.val (t 10) h35) call fun v_36 h37 =>
arb (.val (t 13) h37) call fun v_38 h39 =>
arb (.val (t 8) h39) call fun v_40 h41 =>
arb (.val v_34 h41) call fun v_42 h43 =>
arb (.val v_36 h43) call fun v_44 h45 =>
arb (.val v_38 h45) call fun v_46 h47 =>
arb (.val v_40 h47) call fun v_48 h49 =>
k .ret (upd (upd (upd (upd (upd (upd (upd (upd t 63 v_34) 64 v_36) 65 v_38) 66 v_40) 4 v_42) 5 v_44) 6 v_46) 7 v_48) h49

def J_precentorlaw14_made_4 (P : Program) (call : FuncId → List AVal → Heap → Res AVal) (fuel : Nat) (k : Kn (Ex × T)) (t : T) (h : Heap) : Res (Ex × T) :=
arb (.val (t 14) h) call fun v_54 h55 =>
arb (.of (aBin P .add 3 (.tmp 51) (.const (.int .i64 1)) v_54 (.int .i64 1)) h55) call fun v_56 h57 =>
arb (.val v_56 h57) call fun i_58 h59 =>
k .normal (upd (upd (upd t 51 v_54) 52 v_56) 14 i_58) h59

def J_precentorlaw14_made_3 (P : Program) (call : FuncId → List AVal → Heap → Res AVal) (fuel : Nat) (k : Kn (Ex × T)) (t : T) (h : Heap) : Res (Ex × T) :=
lt (sqK (J_precentorlaw14_made_4 P call fuel k) k) fun k60 =>
lt (blkK 3 k60) fun k61 =>
arb (.val (t 13) h) call fun v_62 h63 =>
arb (.val (t 10) h63) call fun v_64 h65 =>
arb (.val (t 9) h65) call fun v_66 h67 =>
arb (.call F_precentorref9_Groups [v_66] h67) call fun v_68 h69 =>
arb (.val (t 0) h69) call fun v_70 h71 =>
arb (.call F_precentorhand_Feed_Attrs [v_70] h71) call fun v_72 h73 =>
arb (.call F_precentorref9_Match [v_68, v_72] h73) call fun v_74 h75 =>
arb (.call F_precentorref9_Walk [v_64, v_74] h75) call fun v_76 h77 =>
arb (bslR 1 [.nils] 1 h77 [(0, 1, v_76)]) call fun v_78 h79 =>
arb (appR 1 24 h79 v_62 v_78) call fun v_80 h81 =>
arb (.val v_80 h81) call fun ways_82 h83 =>
k61 .normal (upd (upd (upd (upd (upd (upd (upd (upd (upd (upd (upd t 53 v_62) 54 v_64) 55 v_66) 56 v_68) 57 v_70) 58 v_72) 59 v_74) 60 v_76) 61 v_78) 62 v_80) 13 ways_82) h83

def L_precentorlaw14_made_2 (P : Program) (call : FuncId → List AVal → Heap → Res AVal) (fuel : Nat) (t : T) (h : Heap) : Res (Ex × T) :=
lt okK fun k =>
lt (sqK (J_precentorlaw14_made_3 P call fuel k) k) fun k84 =>
arb (.val (t 14) h) call fun v_85 h86 =>
arb (.val (t 1) h86) call fun v_87 h88 =>
arb (.of (aBin P .lss 3 (.tmp 48) (.tmp 49) v_85 v_87) h88) call fun v_89 h90 =>
cb v_89 (
k84 .normal (upd (upd (upd t 48 v_85) 49 v_87) 50 v_89) h90) (
k84 (.exit 2) (upd (upd (upd t 48 v_85) 49 v_87) 50 v_89) h90)

def J_precentorlaw14_made_0 (P : Program) (call : FuncId → List AVal → Heap → Res AVal) (fuel : Nat) (k : Kn (AVal)) (t : T) (h : Heap) : Res (AVal) :=
arb (.val .nils h) call fun ways_32 h33 =>
lt (sqK (J_precentorlaw14_made_1 P call fuel k) k) fun k50 =>
arb (.val (.int .i64 0) h33) call fun i_51 h52 =>
lt (blkK 2 k50) fun k53 =>
(loopN (L_precentorlaw14_made_2 P call fuel) fuel (upd (upd t 13 ways_32) 14 i_51) h52).bind (lpK k53)

def J_precentorlaw14_made_7 (P : Program) (call : FuncId → List AVal → Heap → Res AVal) (fuel : Nat) (k : Kn (Ex × T)) (t : T) (h : Heap) : Res (Ex × T) :=
arb (.val (t 12) h) call fun v_95 h96 =>
arb (.of (aBin P .add 3 (.tmp 27) (.const (.int .i64 1)) v_95 (.int .i64 1)) h96) call fun v_97 h98 =>
arb (.val v_97 h98) call fun i_99 h100 =>
k .normal (upd (upd (upd t 27 v_95) 28 v_97) 12 i_99) h100

def J_precentorlaw14_made_6 (P : Program) (call : FuncId → List AVal → Heap → Res AVal) (fuel : Nat) (k : Kn (Ex × T)) (t : T) (h : Heap) : Res (Ex × T) :=
lt (sqK (J_precentorlaw14_made_7 P call fuel k) k) fun k101 =>
lt (blkK 1 k101) fun k102 =>
obv (.val (t 11) h) fun v_103 =>
obv (.val (t 10) h) fun v_105 =>
obv (.val (t 12) h) fun v_107 =>
obv (.of (ixsR 3 v_105 v_107) h) fun v_109 =>
obv (.of (fadR 0 v_109) h) fun v_111 =>
obv (.of (ld1 h v_111) h) fun v_113 => ifb true <|
obv (.val (t 10) h) fun v_115 =>
obv (.val (t 12) h) fun v_117 =>
obv (.of (ixsR 3 v_115 v_117) h) fun v_119 =>
obv (.of (fadR 1 v_119) h) fun v_121 =>
obv (.of (ld1 h v_121) h) fun v_123 => ifb true <|
obv (.val (t 10) h) fun v_125 =>
obv (.val (t 12) h) fun v_127 =>
obv (.of (ixsR 3 v_125 v_127) h) fun v_129 =>
obv (.of (fadR 2 v_129) h) fun v_131 =>
obv (.of (ld1 h v_131) h) fun v_133 => ifb true <|
obv (.of (bldR [(.int .i64 0), (.int .i64 0), (.int .i64 0)] [(0, 1, v_113), (1, 1, v_123), (2, 1, v_133)]) h) fun v_135 =>
arbV (bslR 3 [(.int .i64 0), (.int .i64 0), (.int .i64 0)] 1 h [(0, 3, v_135)]) fun v_137 h138 =>
arbE (appR 3 24 h138 v_103 v_137) call fun v_139 h140 => lt h140 fun g140 => ifb (true && true) <|
obv (.val v_139 g140) fun c_141 =>
k102 .normal (upd (upd (upd (upd (upd (upd (upd (upd (upd (upd (upd (upd (upd (upd (upd (upd (upd (upd (upd (upd t 29 v_103) 30 v_105) 31 v_107) 32 v_109) 33 v_111) 34 v_113) 35 v_115) 36 v_117) 37 v_119) 38 v_121) 39 v_123) 40 v_125) 41 v_127) 42 v_129) 43 v_131) 44 v_133) 45 v_135) 46 v_137) 47 v_139) 11 c_141) g140

def L_precentorlaw14_made_5 (P : Program) (call : FuncId → List AVal → Heap → Res AVal) (fuel : Nat) (t : T) (h : Heap) : Res (Ex × T) :=
lt okK fun k =>
lt (sqK (J_precentorlaw14_made_6 P call fuel k) k) fun k143 =>
arb (.val (t 12) h) call fun v_144 h145 =>
arb (.val (t 10) h145) call fun v_146 h147 =>
arb (.of (lenL v_146) h147) call fun v_148 h149 =>
arb (.of (aBin P .lss 3 (.tmp 23) (.tmp 25) v_144 v_148) h149) call fun v_150 h151 =>
cb v_150 (
k143 .normal (upd (upd (upd (upd t 23 v_144) 24 v_146) 25 v_148) 26 v_150) h151) (
k143 (.exit 0) (upd (upd (upd (upd t 23 v_144) 24 v_146) 25 v_148) 26 v_150) h151)

def S_precentorlaw14_made (P : Program) (call : FuncId → List AVal → Heap → Res AVal) (fuel : Nat) (f_a0 n_a1 : AVal) (h : Heap) : Res AVal :=
lt (retK P [.tmp 4, .tmp 5, .tmp 6, .tmp 7]) fun k =>
arb (.val .nils h) call fun v_0 h1 =>
arb (.val .nils h1) call fun v_2 h3 =>
arb (.val .nils h3) call fun v_4 h5 =>
arb (.val .nils h5) call fun v_6 h7 =>
arb (.val f_a0 h7) call fun v_8 h9 =>
arb (.call F_precentorhand_Feed_Tree [v_8, (.int .i64 5)] h9) call fun v_10 h11 =>
arb (.val v_10 h11) call fun p_12 h13 =>
arb (.val f_a0 h13) call fun v_14 h15 =>
arb (.val p_12 h15) call fun v_16 h17 =>
arb (.call F_precentorhand_Feed_Subs [v_14, v_16] h17) call fun v_18 h19 =>
arb (.val v_18 h19) call fun x_20 h21 =>
arb (.val p_12 h21) call fun v_22 h23 =>
arb (.val x_20 h23) call fun v_24 h25 =>
arb (.call F_precentorref9_Chain [v_22, v_24] h25) call fun v_26 h27 =>
arb (.val v_26 h27) call fun d_28 h29 =>
arb (.val .nils h29) call fun c_30 h31 =>
lt (sqK (J_precentorlaw14_made_0 P call fuel k) k) fun k91 =>
arb (.val (.int .i64 0) h31) call fun i_92 h93 =>
lt (blkK 0 k91) fun k94 =>
(loopN (L_precentorlaw14_made_5 P call fuel) fuel (upd (upd (upd (upd (upd (upd (upd (upd (upd (upd (upd (upd (upd (upd (upd (upd (upd (enterT [f_a0, n_a1]) 4 v_0) 5 v_2) 6 v_4) 7 v_6) 15 v_8) 16 v_10) 8 p_12) 17 v_14) 18 v_16) 19 v_18) 9 x_20) 20 v_22) 21 v_24) 22 v_26) 10 d_28) 11 c_30) 12 i_92) h93).bind (lpK k94)
theorem E_precentorlaw14_made (call : FuncId → List AVal → Heap → Res AVal) (fuel : Nat) (f_a0 n_a1 : AVal) (h : Heap) : bodyR Try.prog call fuel Try.f11 [f_a0, n_a1] h = S_precentorlaw14_made Try.prog call fuel f_a0 n_a1 h := by kernel_rfl
theorem R_precentorlaw14_made {X : XTab} (f_a0 n_a1 : AVal) {h : Heap} {Q : AVal → Heap → Prop} (hx : X F_precentorlaw14_made [f_a0, n_a1] = none) (q : Tells (fun m => S_precentorlaw14_made Try.prog (acallX Try.prog X m) m f_a0 n_a1 h) Q) :
    Tells (fun m => acallX Try.prog X m F_precentorlaw14_made [f_a0, n_a1] h) Q :=
  Tells.later (q.le fun m => (E_precentorlaw14_made (acallX Try.prog X m) m f_a0 n_a1 h) ▸ acallX_le Try.func11 hx m h)


end Go.Proofs.Ytbkfamdkdjajjaa
