/-
  Functions of precentorlaw14 in the form of YtbnnkfbjnpmamaaABS (printed by a program of ours, gen.lean).
-/
import Derived.Test.YtbnnkfbjnpmamaaSIds
set_option linter.unusedVariables false
namespace Go.Proofs.Ytbnnkfbjnpmamaa
open Go.Ab
/-! ### precentor/precentorlaw14.SeqOwn -/
def J_precentorlaw14_SeqOwn_1 (P : Program) (call : FuncId → List AVal → Heap → Res AVal) (fuel : Nat) (k : Kn (AVal)) (t : T) (h : Heap) : Res (AVal) :=
arb (.of (fadR 6 (t 8)) h) call fun v_84 h85 =>
arb (.of (ld1 h85 v_84) h85) call fun v_86 h87 =>
arb (.val (t 0) h87) call fun v_88 h89 =>
arb (.of (aBin P .add 3 (.tmp 88) (.const (.int .i64 1)) v_88 (.int .i64 1)) h89) call fun v_90 h91 =>
arb (.of (ixsR 2 v_86 (.int .i64 0)) h91) call fun v_92 h93 =>
arb (.of (fadR 1 v_92) h93) call fun v_94 h95 =>
arb (stR 1 h95 v_94 v_90) call fun v_96 h97 =>
arb (.val (t 6) h97) call fun v_98 h99 =>
arb (.of (ixsR 2 v_98 (.int .i64 0)) h99) call fun v_100 h101 =>
arb (.of (fadR 1 v_100) h101) call fun v_102 h103 =>
arb (.of (ld1 h103 v_102) h103) call fun v_104 h105 =>
arb (.val (t 0) h105) call fun v_106 h107 =>
arb (.of (aBin P .eql 3 (.tmp 95) (.tmp 96) v_104 v_106) h107) call fun v_108 h109 =>
arb (.val v_108 h109) call fun v_110 h111 =>
gd (wantB v_110 true) (fun c => arb (.val (t 6) h111) call c) h111 fun v_112 h113 =>
gd (wantB v_110 true) (fun c => arb (.of (ixsR 2 v_112 (.int .i64 1)) h113) call c) h113 fun v_114 h115 =>
gd (wantB v_110 true) (fun c => arb (.of (fadR 1 v_114) h115) call c) h115 fun v_116 h117 =>
gd (wantB v_110 true) (fun c => arb (.of (ld1 h117 v_116) h117) call c) h117 fun v_118 h119 =>
gd (wantB v_110 true) (fun c => arb (.of (aBin P .eql 3 (.tmp 102) (.const (.int .i64 7)) v_118 (.int .i64 7)) h119) call c) h119 fun v_120 h121 =>
arb (pkR v_110 v_120 (.bool false) h121) call fun v_122 h123 =>
arb (.val v_122 h123) call fun v_124 h125 =>
gd (wantB v_124 true) (fun c => arb (.val (t 6) h125) call c) h125 fun v_126 h127 =>
gd (wantB v_124 true) (fun c => arb (.of (ixsR 2 v_126 (.int .i64 2)) h127) call c) h127 fun v_128 h129 =>
gd (wantB v_124 true) (fun c => arb (.of (fadR 1 v_128) h129) call c) h129 fun v_130 h131 =>
gd (wantB v_124 true) (fun c => arb (.of (ld1 h131 v_130) h131) call c) h131 fun v_132 h133 =>
gd (wantB v_124 true) (fun c => arb (.of (aBin P .eql 3 (.tmp 109) (.const (.int .i64 8)) v_132 (.int .i64 8)) h133) call c) h133 fun v_134 h135 =>
arb (pkR v_124 v_134 (.bool false) h135) call fun v_136 h137 =>
arb (.val v_136 h137) call fun v_138 h139 =>
gd (wantB v_138 true) (fun c => arb (.of (fadR 6 (t 10)) h139) call c) h139 fun v_140 h141 =>
gd (wantB v_138 true) (fun c => arb (.of (ld1 h141 v_140) h141) call c) h141 fun v_142 h143 =>
gd (wantB v_138 true) (fun c => arb (.of (ixsR 2 v_142 (.int .i64 0)) h143) call c) h143 fun v_144 h145 =>
gd (wantB v_138 true) (fun c => arb (.of (fadR 1 v_144) h145) call c) h145 fun v_146 h147 =>
gd (wantB v_138 true) (fun c => arb (.of (ld1 h147 v_146) h147) call c) h147 fun v_148 h149 =>
gd (wantB v_138 true) (fun c => arb (.val (t 0) h149) call c) h149 fun v_150 h151 =>
gd (wantB v_138 true) (fun c => arb (.of (aBin P .eql 3 (.tmp 117) (.tmp 118) v_148 v_150) h151) call c) h151 fun v_152 h153 =>
arb (pkR v_138 v_152 (.bool false) h153) call fun v_154 h155 =>
arb (.val v_154 h155) call fun v_156 h157 =>
gd (wantB v_156 true) (fun c => arb (.val (t 5) h157) call c) h157 fun v_158 h159 =>
gd (wantB v_156 true) (fun c => arb (.call F_seq_Seq_Count [v_158, (.int .i64 0)] h159) call c) h159 fun v_160 h161 =>
gd (wantB v_156 true) (fun c => arb (.of (aBin P .eql 3 (.tmp 123) (.const (.int .i64 0)) v_160 (.int .i64 0)) h161) call c) h161 fun v_162 h163 =>
arb (pkR v_156 v_162 (.bool false) h163) call fun v_164 h165 =>
arb (.val v_164 h165) call fun v_166 h167 =>
gd (wantB v_166 true) (fun c => arb (.val (t 4) h167) call c) h167 fun v_168 h169 =>
gd (wantB v_166 true) (fun c => arb (.call F_seq_Seq_Count [v_168, (.int .i64 0)] h169) call c) h169 fun v_170 h171 =>
gd (wantB v_166 true) (fun c => arb (.of (aBin P .eql 3 (.tmp 128) (.const (.int .i64 2)) v_170 (.int .i64 2)) h171) call c) h171 fun v_172 h173 =>
arb (pkR v_166 v_172 (.bool false) h173) call fun v_174 h175 =>
arb (.val v_174 h175) call fun v_176 h177 =>
k .ret (upd (upd (upd (upd (upd (upd (upd (upd (upd (upd (upd (upd (upd (upd (upd (upd (upd (upd (upd (upd (upd (upd (upd (upd (upd (upd (upd (upd (upd (upd (upd (upd (upd (upd (upd (upd (upd (upd (upd (upd (upd (upd (upd (upd (upd (upd t 86 v_84) 87 v_86) 88 v_88) 89 v_90) 90 v_92) 91 v_94) 92 v_98) 93 v_100) 94 v_102) 95 v_104) 96 v_106) 97 v_108) 98 v_110) 99 v_112) 100 v_114) 101 v_116) 102 v_118) 103 v_120) 104 v_122) 105 v_124) 106 v_126) 107 v_128) 108 v_130) 109 v_132) 110 v_134) 111 v_136) 112 v_138) 113 v_140) 114 v_142) 115 v_144) 116 v_146) 117 v_148) 118 v_150) 119 v_152) 120 v_154) 121 v_156) 122 v_158) 123 v_160) 124 v_162) 125 v_164) 126 v_166) 127 v_168) 128 v_170) 129 v_172) 130 v_174) 2 v_176) h177

def J_precentorlaw14_SeqOwn_0 (P : Program) (call : FuncId → List AVal → Heap → Res AVal) (fuel : Nat) (k : Kn (AVal)) (t : T) (h : Heap) : Res (AVal) :=
arb (.val (t 0) h) call fun v_22 h23 =>
arb (.of (bldR [(.int .i64 0), (.int .i64 0)] [(0, 1, (.int .i64 9)), (1, 1, v_22)]) h23) call fun v_24 h25 =>
arb (.of (bldR [(.int .i64 0), (.int .i64 0)] [(0, 1, (.int .i64 7)), (1, 1, (.int .i64 7))]) h25) call fun v_26 h27 =>
arb (.of (bldR [(.int .i64 0), (.int .i64 0)] [(0, 1, (.int .i64 8)), (1, 1, (.int .i64 8))]) h27) call fun v_28 h29 =>
arb (bslR 2 [(.int .i64 0), (.int .i64 0), (.int .i64 0), (.int .i64 0), (.int .i64 0), (.int .i64 0)] 3 h29 [(0, 2, v_24), (2, 2, v_26), (4, 2, v_28)]) call fun v_30 h31 =>
arb (.val v_30 h31) call fun full_32 h33 =>
arb (.val full_32 h33) call fun v_34 h35 =>
arb (.of (slcR 2 v_34 none (some (.int .i64 1)) none) h35) call fun v_36 h37 =>
arb (.of (bldR [(.int .i64 0), (.int .i64 0), (.int .i64 0), (.int .i64 0), (.int .i64 0), .nils, .nils] [(6, 1, v_36)]) h37) call fun v_38 h39 =>
arb (newR [(.int .i64 0), (.int .i64 0), (.int .i64 0), (.int .i64 0), (.int .i64 0), .nils, .nils] h39) call fun e_40 h41 =>
arb (stR 7 h41 e_40 v_38) call fun v_42 h43 =>
arb (.val (t 4) h43) call fun v_44 h45 =>
arb (.of (ldn 7 h45 e_40) h45) call fun v_46 h47 =>
arb (bslR 1 [(.int .i64 0), (.int .i64 0)] 2 h47 [(0, 1, (.int .i64 0)), (1, 1, (.int .i64 1))]) call fun v_48 h49 =>
arb (.call F_seq_Seq_Pass [v_44, v_46, v_48] h49) call fun v_50 h51 =>
arb (.val v_50 h51) call fun v_52 h53 =>
arb (extR v_52 0 h53) call fun v_54 h55 =>
arb (extR v_52 1 h55) call fun v_56 h57 =>
arb (newR [(.int .i64 0), (.int .i64 0), (.int .i64 0), (.int .i64 0), (.int .i64 0), .nils, .nils] h57) call fun x_58 h59 =>
arb (stR 7 h59 x_58 v_54) call fun v_60 h61 =>
arb (.val v_56 h61) call fun v_62 h63 =>
arb (.val (t 4) h63) call fun v_64 h65 =>
arb (.of (ldn 7 h65 e_40) h65) call fun v_66 h67 =>
arb (bslR 1 [(.int .i64 0), (.int .i64 0)] 2 h67 [(0, 1, (.int .i64 0)), (1, 1, (.int .i64 1))]) call fun v_68 h69 =>
arb (.call F_seq_Seq_Pass [v_64, v_66, v_68] h69) call fun v_70 h71 =>
arb (.val v_70 h71) call fun v_72 h73 =>
arb (extR v_72 0 h73) call fun v_74 h75 =>
arb (extR v_72 1 h75) call fun v_76 h77 =>
arb (newR [(.int .i64 0), (.int .i64 0), (.int .i64 0), (.int .i64 0), (.int .i64 0), .nils, .nils] h77) call fun y_78 h79 =>
arb (stR 7 h79 y_78 v_74) call fun v_80 h81 =>
arb (.val v_76 h81) call fun v_82 h83 =>
lt (sqK (J_precentorlaw14_SeqOwn_1 P call fuel k) k) fun k178 =>
arb (.of (fadR 6 x_58) h83) call fun v_179 h180 =>
arb (.of (ld1 h180 v_179) h180) call fun v_181 h182 =>
arb (.of (lenL v_181) h182) call fun v_183 h184 =>
arb (.of (aBin P .neq 3 (.tmp 53) (.const (.int .i64 3)) v_183 (.int .i64 3)) h184) call fun v_185 h186 =>
arb (.val v_185 h186) call fun v_187 h188 =>
gd (wantB v_187 false) (fun c => arb (.of (fadR 6 y_78) h188) call c) h188 fun v_189 h190 =>
gd (wantB v_187 false) (fun c => arb (.of (ld1 h190 v_189) h190) call c) h190 fun v_191 h192 =>
gd (wantB v_187 false) (fun c => arb (.of (lenL v_191) h192) call c) h192 fun v_193 h194 =>
gd (wantB v_187 false) (fun c => arb (.of (aBin P .neq 3 (.tmp 58) (.const (.int .i64 3)) v_193 (.int .i64 3)) h194) call c) h194 fun v_195 h196 =>
arb (pkR v_187 (.bool true) v_195 h196) call fun v_197 h198 =>
arb (.val v_197 h198) call fun v_199 h200 =>
gd (wantB v_199 false) (fun c => arb (.of (fadR 6 x_58) h200) call c) h200 fun v_201 h202 =>
gd (wantB v_199 false) (fun c => arb (.of (ld1 h202 v_201) h202) call c) h202 fun v_203 h204 =>
gd (wantB v_199 false) (fun c => arb (.of (ixsR 2 v_203 (.int .i64 0)) h204) call c) h204 fun v_205 h206 =>
gd (wantB v_199 false) (fun c => arb (.of (fadR 1 v_205) h206) call c) h206 fun v_207 h208 =>
gd (wantB v_199 false) (fun c => arb (.of (ld1 h208 v_207) h208) call c) h208 fun v_209 h210 =>
gd (wantB v_199 false) (fun c => arb (.val (t 0) h210) call c) h210 fun v_211 h212 =>
gd (wantB v_199 false) (fun c => arb (.of (aBin P .neq 3 (.tmp 66) (.tmp 67) v_209 v_211) h212) call c) h212 fun v_213 h214 =>
arb (pkR v_199 (.bool true) v_213 h214) call fun v_215 h216 =>
arb (.val v_215 h216) call fun v_217 h218 =>
gd (wantB v_217 false) (fun c => arb (.of (fadR 6 x_58) h218) call c) h218 fun v_219 h220 =>
gd (wantB v_217 false) (fun c => arb (.of (ld1 h220 v_219) h220) call c) h220 fun v_221 h222 =>
gd (wantB v_217 false) (fun c => arb (.of (ixsR 2 v_221 (.int .i64 1)) h222) call c) h222 fun v_223 h224 =>
gd (wantB v_217 false) (fun c => arb (.of (fadR 1 v_223) h224) call c) h224 fun v_225 h226 =>
gd (wantB v_217 false) (fun c => arb (.of (ld1 h226 v_225) h226) call c) h226 fun v_227 h228 =>
gd (wantB v_217 false) (fun c => arb (.of (aBin P .neq 3 (.tmp 75) (.const (.int .i64 1)) v_227 (.int .i64 1)) h228) call c) h228 fun v_229 h230 =>
arb (pkR v_217 (.bool true) v_229 h230) call fun v_231 h232 =>
arb (.val v_231 h232) call fun v_233 h234 =>
gd (wantB v_233 false) (fun c => arb (.of (fadR 6 y_78) h234) call c) h234 fun v_235 h236 =>
gd (wantB v_233 false) (fun c => arb (.of (ld1 h236 v_235) h236) call c) h236 fun v_237 h238 =>
gd (wantB v_233 false) (fun c => arb (.of (ixsR 2 v_237 (.int .i64 1)) h238) call c) h238 fun v_239 h240 =>
gd (wantB v_233 false) (fun c => arb (.of (fadR 1 v_239) h240) call c) h240 fun v_241 h242 =>
gd (wantB v_233 false) (fun c => arb (.of (ld1 h242 v_241) h242) call c) h242 fun v_243 h244 =>
gd (wantB v_233 false) (fun c => arb (.of (aBin P .neq 3 (.tmp 83) (.const (.int .i64 2)) v_243 (.int .i64 2)) h244) call c) h244 fun v_245 h246 =>
arb (pkR v_233 (.bool true) v_245 h246) call fun v_247 h248 =>
cb v_247 (
arb (.val (.bool false) h248) call fun v_249 h250 =>
k178 .ret (upd (upd (upd (upd (upd (upd (upd (upd (upd (upd (upd (upd (upd (upd (upd (upd (upd (upd (upd (upd (upd (upd (upd (upd (upd (upd (upd (upd (upd (upd (upd (upd (upd (upd (upd (upd (upd (upd (upd (upd (upd (upd (upd (upd (upd (upd (upd (upd (upd (upd (upd (upd (upd (upd (upd (upd (upd (upd (upd (upd (upd (upd (upd (upd t 29 v_22) 30 v_24) 31 v_26) 32 v_28) 33 v_30) 6 full_32) 34 v_34) 35 v_36) 36 v_38) 7 e_40) 38 v_44) 39 v_46) 40 v_48) 41 v_50) 37 v_52) 42 v_54) 43 v_56) 8 x_58) 9 v_62) 45 v_64) 46 v_66) 47 v_68) 48 v_70) 44 v_72) 49 v_74) 50 v_76) 10 y_78) 11 v_82) 51 v_179) 52 v_181) 53 v_183) 54 v_185) 55 v_187) 56 v_189) 57 v_191) 58 v_193) 59 v_195) 60 v_197) 61 v_199) 62 v_201) 63 v_203) 64 v_205) 65 v_207) 66 v_209) 67 v_211) 68 v_213) 69 v_215) 70 v_217) 71 v_219) 72 v_221) 73 v_223) 74 v_225) 75 v_227) 76 v_229) 77 v_231) 78 v_233) 79 v_235) 80 v_237) 81 v_239) 82 v_241) 83 v_243) 84 v_245) 85 v_247) 2 v_249) h250) (
k178 .normal (upd (upd (upd (upd (upd (upd (upd (upd (upd (upd (upd (upd (upd (upd (upd (upd (upd (upd (upd (upd (upd (upd (upd (upd (upd (upd (upd (upd (upd (upd (upd (upd (upd (upd (upd (upd (upd (upd (upd (upd (upd (upd (upd (upd (upd (upd (upd (upd (upd (upd (upd (upd (upd (upd (upd (upd (upd (upd (upd (upd (upd (upd (upd t 29 v_22) 30 v_24) 31 v_26) 32 v_28) 33 v_30) 6 full_32) 34 v_34) 35 v_36) 36 v_38) 7 e_40) 38 v_44) 39 v_46) 40 v_48) 41 v_50) 37 v_52) 42 v_54) 43 v_56) 8 x_58) 9 v_62) 45 v_64) 46 v_66) 47 v_68) 48 v_70) 44 v_72) 49 v_74) 50 v_76) 10 y_78) 11 v_82) 51 v_179) 52 v_181) 53 v_183) 54 v_185) 55 v_187) 56 v_189) 57 v_191) 58 v_193) 59 v_195) 60 v_197) 61 v_199) 62 v_201) 63 v_203) 64 v_205) 65 v_207) 66 v_209) 67 v_211) 68 v_213) 69 v_215) 70 v_217) 71 v_219) 72 v_221) 73 v_223) 74 v_225) 75 v_227) 76 v_229) 77 v_231) 78 v_233) 79 v_235) 80 v_237) 81 v_239) 82 v_241) 83 v_243) 84 v_245) 85 v_247) h248)

def S_precentorlaw14_SeqOwn (P : Program) (call : FuncId → List AVal → Heap → Res AVal) (fuel : Nat) (n_a0 : AVal) (h : Heap) : Res AVal :=
lt (retK P [.tmp 2]) fun k =>
arb (.val (.bool false) h) call fun v_0 h1 =>
arb (.of (bldR [(.int .i64 0), (.int .i64 0), (.int .i64 0)] []) h1) call fun v_2 h3 =>
arb (.of (bldR [(.int .i64 0), (.int .i64 0), (.int .i64 0)] [(0, 1, (.int .i64 0)), (1, 1, (.int .i64 1))]) h3) call fun v_4 h5 =>
arb (bslR 3 [(.int .i64 0), (.int .i64 0), (.int .i64 0), (.int .i64 0), (.int .i64 0), (.int .i64 0)] 2 h5 [(0, 3, v_2), (3, 3, v_4)]) call fun v_6 h7 =>
arb (.val v_6 h7) call fun c_8 h9 =>
arb (.val c_8 h9) call fun v_10 h11 =>
arb (.call F_seq_New [v_10, (.int .i64 0)] h11) call fun v_12 h13 =>
arb (.val v_12 h13) call fun a_14 h15 =>
arb (.val c_8 h15) call fun v_16 h17 =>
arb (.call F_seq_New [v_16, (.int .i64 0)] h17) call fun v_18 h19 =>
arb (.val v_18 h19) call fun b_20 h21 =>
lt (sqK (J_precentorlaw14_SeqOwn_0 P call fuel k) k) fun k251 =>
arb (.call F_precentorlaw14_known [] h21) call fun v_252 h253 =>
arb (.of (aUn P .not v_252) h253) call fun v_254 h255 =>
arb (.val v_254 h255) call fun v_256 h257 =>
gd (wantB v_256 false) (fun c => arb (.val a_14 h257) call c) h257 fun v_258 h259 =>
gd (wantB v_256 false) (fun c => arb (.of (aBin P .eql 25 (.tmp 22) (.const (.pointer none)) v_258 .nilp) h259) call c) h259 fun v_260 h261 =>
arb (pkR v_256 (.bool true) v_260 h261) call fun v_262 h263 =>
arb (.val v_262 h263) call fun v_264 h265 =>
gd (wantB v_264 false) (fun c => arb (.val b_20 h265) call c) h265 fun v_266 h267 =>
gd (wantB v_264 false) (fun c => arb (.of (aBin P .eql 25 (.tmp 26) (.const (.pointer none)) v_266 .nilp) h267) call c) h267 fun v_268 h269 =>
arb (pkR v_264 (.bool true) v_268 h269) call fun v_270 h271 =>
cb v_270 (
arb (.val (.bool false) h271) call fun v_272 h273 =>
k251 .ret (upd (upd (upd (upd (upd (upd (upd (upd (upd (upd (upd (upd (upd (upd (upd (upd (upd (upd (upd (upd (upd (upd (enterT [n_a0]) 2 v_0) 12 v_2) 13 v_4) 14 v_6) 3 c_8) 15 v_10) 16 v_12) 4 a_14) 17 v_16) 18 v_18) 5 b_20) 19 v_252) 20 v_254) 21 v_256) 22 v_258) 23 v_260) 24 v_262) 25 v_264) 26 v_266) 27 v_268) 28 v_270) 2 v_272) h273) (
k251 .normal (upd (upd (upd (upd (upd (upd (upd (upd (upd (upd (upd (upd (upd (upd (upd (upd (upd (upd (upd (upd (upd (enterT [n_a0]) 2 v_0) 12 v_2) 13 v_4) 14 v_6) 3 c_8) 15 v_10) 16 v_12) 4 a_14) 17 v_16) 18 v_18) 5 b_20) 19 v_252) 20 v_254) 21 v_256) 22 v_258) 23 v_260) 24 v_262) 25 v_264) 26 v_266) 27 v_268) 28 v_270) h271)
theorem E_precentorlaw14_SeqOwn (call : FuncId → List AVal → Heap → Res AVal) (fuel : Nat) (n_a0 : AVal) (h : Heap) : bodyR Try.prog call fuel Try.f3 [n_a0] h = S_precentorlaw14_SeqOwn Try.prog call fuel n_a0 h := by kernel_rfl
theorem R_precentorlaw14_SeqOwn {X : XTab} (n_a0 : AVal) {h : Heap} {Q : AVal → Heap → Prop} (hx : X F_precentorlaw14_SeqOwn [n_a0] = none) (q : Tells (fun m => S_precentorlaw14_SeqOwn Try.prog (acallX Try.prog X m) m n_a0 h) Q) :
    Tells (fun m => acallX Try.prog X m F_precentorlaw14_SeqOwn [n_a0] h) Q :=
  Tells.later (q.le fun m => (E_precentorlaw14_SeqOwn (acallX Try.prog X m) m n_a0 h) ▸ acallX_le Try.func3 hx m h)

/-! ### precentor/precentorlaw14.known -/

def S_precentorlaw14_known (P : Program) (call : FuncId → List AVal → Heap → Res AVal) (fuel : Nat) (h : Heap) : Res AVal :=
lt (retK P [.tmp 0]) fun k =>
arb (.val (.bool false) h) call fun v_0 h1 =>
arb (.call F_precentorlaw14_SeqKnown [] h1) call fun v_2 h3 =>
arb (.val v_2 h3) call fun v_4 h5 =>
k .ret (upd (upd (upd (enterT []) 0 v_0) 1 v_2) 0 v_4) h5
theorem E_precentorlaw14_known (call : FuncId → List AVal → Heap → Res AVal) (fuel : Nat) (h : Heap) : bodyR Try.prog call fuel Try.f5 [] h = S_precentorlaw14_known Try.prog call fuel  h := by kernel_rfl
theorem R_precentorlaw14_known {X : XTab} {h : Heap} {Q : AVal → Heap → Prop} (hx : X F_precentorlaw14_known [] = none) (q : Tells (fun m => S_precentorlaw14_known Try.prog (acallX Try.prog X m) m  h) Q) :
    Tells (fun m => acallX Try.prog X m F_precentorlaw14_known [] h) Q :=
  Tells.later (q.le fun m => (E_precentorlaw14_known (acallX Try.prog X m) m  h) ▸ acallX_le Try.func5 hx m h)


end Go.Proofs.Ytbnnkfbjnpmamaa
