/-
  Functions of precentorref9 in the form of YtbolfamaffbnnaaABS (printed by a program of ours, gen.lean).
-/
import Derived.Test.YtbolfamaffbnnaaSIds
set_option linter.unusedVariables false
namespace Go.Proofs.Ytbolfamaffbnnaa
open Go.Ab
/-! ### precentor/precentorref9.Apply -/
def J_precentorref9_Apply_0 (P : Program) (call : FuncId → List AVal → Heap → Res AVal) (fuel : Nat) (k : Kn (AVal)) (t : T) (h : Heap) : Res (AVal) :=
arb (.val (t 0) h) call fun v_10 h11 =>
arb (.val v_10 h11) call fun v_12 h13 =>
k .ret (upd (upd t 139 v_10) 4 v_12) h13

def J_precentorref9_Apply_3 (P : Program) (call : FuncId → List AVal → Heap → Res AVal) (fuel : Nat) (k : Kn (Ex × T)) (t : T) (h : Heap) : Res (Ex × T) :=
arb (.val (t 5) h) call fun v_18 h19 =>
arb (.of (aBin P .add 3 (.tmp 19) (.const (.int .i64 1)) v_18 (.int .i64 1)) h19) call fun v_20 h21 =>
arb (.val v_20 h21) call fun i_22 h23 =>
k .normal (upd (upd (upd t 19 v_18) 20 v_20) 5 i_22) h23

def J_precentorref9_Apply_5 (P : Program) (call : FuncId → List AVal → Heap → Res AVal) (fuel : Nat) (k : Kn (Ex × T)) (t : T) (h : Heap) : Res (Ex × T) :=
arb (.val (t 7) h) call fun v_76 h77 =>
arb (.val v_76 h77) call fun l_78 h79 =>
k .normal (upd (upd t 138 v_76) 0 l_78) h79

def J_precentorref9_Apply_4 (P : Program) (call : FuncId → List AVal → Heap → Res AVal) (fuel : Nat) (k : Kn (Ex × T)) (t : T) (h : Heap) : Res (Ex × T) :=
lt (sqK (J_precentorref9_Apply_5 P call fuel k) k) fun k80 =>
arb (.val (t 8) h) call fun v_81 h82 =>
arb (.of (aUn P .not v_81) h82) call fun v_83 h84 =>
cb v_83 (
arb (.val (t 7) h84) call fun v_85 h86 =>
arb (.of (ldn 4 h86 (t 6)) h86) call fun v_87 h88 =>
arb (bslR 4 [(.int .i64 0), (.int .i64 0), (.int .i64 0), .nils] 1 h88 [(0, 4, v_87)]) call fun v_89 h90 =>
arb (appR 4 48 h90 v_85 v_89) call fun v_91 h92 =>
arb (.val v_91 h92) call fun next_93 h94 =>
k80 .normal (upd (upd (upd (upd (upd (upd (upd t 132 v_81) 133 v_83) 134 v_85) 135 v_87) 136 v_89) 137 v_91) 7 next_93) h94) (
k80 .normal (upd (upd t 132 v_81) 133 v_83) h84)

def J_precentorref9_Apply_8 (P : Program) (call : FuncId → List AVal → Heap → Res AVal) (fuel : Nat) (k : Kn (Ex × T)) (t : T) (h : Heap) : Res (Ex × T) :=
arb (.val (t 10) h) call fun v_99 h100 =>
arb (.of (aBin P .add 3 (.tmp 45) (.const (.int .i64 1)) v_99 (.int .i64 1)) h100) call fun v_101 h102 =>
arb (.val v_101 h102) call fun k_103 h104 =>
k .normal (upd (upd (upd t 45 v_99) 46 v_101) 10 k_103) h104

def J_precentorref9_Apply_11 (P : Program) (call : FuncId → List AVal → Heap → Res AVal) (fuel : Nat) (k : Kn (Ex × T)) (t : T) (h : Heap) : Res (Ex × T) :=
arb (.val (t 7) h) call fun v_134 h135 =>
arb (.val (t 0) h135) call fun v_136 h137 =>
arb (.val (t 10) h137) call fun v_138 h139 =>
arb (.of (ixsR 4 v_136 v_138) h139) call fun v_140 h141 =>
arb (.of (ldn 4 h141 v_140) h141) call fun v_142 h143 =>
arb (bslR 4 [(.int .i64 0), (.int .i64 0), (.int .i64 0), .nils] 1 h143 [(0, 4, v_142)]) call fun v_144 h145 =>
arb (appR 4 48 h145 v_134 v_144) call fun v_146 h147 =>
arb (.val v_146 h147) call fun next_148 h149 =>
k .normal (upd (upd (upd (upd (upd (upd (upd (upd t 125 v_134) 126 v_136) 127 v_138) 128 v_140) 129 v_142) 130 v_144) 131 v_146) 7 next_148) h149

def J_precentorref9_Apply_10 (P : Program) (call : FuncId → List AVal → Heap → Res AVal) (fuel : Nat) (k : Kn (Ex × T)) (t : T) (h : Heap) : Res (Ex × T) :=
lt (sqK (J_precentorref9_Apply_11 P call fuel k) k) fun k150 =>
obv (.val (t 9) h) fun v_151 =>
obv (.of (aUn P .not v_151) h) fun v_152 =>
obv (.val v_152 h) fun v_153 =>
gd (wantB v_153 true) (fun c => obv (.val (t 8) h) fun v => c v h) h fun v_154 h155 =>
gd (wantB v_153 true) (fun c => obv (.of (aUn P .not v_154) h155) fun v => c v h155) h155 fun v_156 h157 =>
obv (pkR v_153 v_156 (.bool false) h157) fun v_158 =>
obv (.val v_158 h157) fun v_159 =>
gd (wantB v_159 true) (fun c => obv (.val (t 0) h157) fun v => c v h157) h157 fun v_160 h161 =>
gd (wantB v_159 true) (fun c => obv (.val (t 10) h161) fun v => c v h161) h161 fun v_162 h163 =>
gd (wantB v_159 true) (fun c => obv (.of (ixsR 4 v_160 v_162) h163) fun v => c v h163) h163 fun v_164 h165 =>
gd (wantB v_159 true) (fun c => obv (.of (fadR 0 v_164) h165) fun v => c v h165) h165 fun v_166 h167 =>
gd (wantB v_159 true) (fun c => obv (.of (ld1 h167 v_166) h167) fun v => c v h167) h167 fun v_168 h169 =>
gd (wantB v_159 true) (fun c => obv (.of (fadR 0 (t 6)) h169) fun v => c v h169) h169 fun v_170 h171 =>
gd (wantB v_159 true) (fun c => obv (.of (ld1 h171 v_170) h171) fun v => c v h171) h171 fun v_172 h173 =>
gd (wantB v_159 true) (fun c => obv (.of (aBin P .gtr 3 (.tmp 96) (.tmp 98) v_168 v_172) h173) fun v => c v h173) h173 fun v_174 h175 =>
gd (wantB v_159 true) (fun c => obv (.val v_174 h175) fun v => c v h175) h175 fun v_176 h177 =>
gd (wantB v_176 false) (fun c => obv (.val (t 0) h177) fun v => c v h177) h177 fun v_178 h179 =>
gd (wantB v_176 false) (fun c => obv (.val (t 10) h179) fun v => c v h179) h179 fun v_180 h181 =>
gd (wantB v_176 false) (fun c => obv (.of (ixsR 4 v_178 v_180) h181) fun v => c v h181) h181 fun v_182 h183 =>
gd (wantB v_176 false) (fun c => obv (.of (fadR 0 v_182) h183) fun v => c v h183) h183 fun v_184 h185 =>
gd (wantB v_176 false) (fun c => obv (.of (ld1 h185 v_184) h185) fun v => c v h185) h185 fun v_186 h187 =>
gd (wantB v_176 false) (fun c => obv (.of (fadR 0 (t 6)) h187) fun v => c v h187) h187 fun v_188 h189 =>
gd (wantB v_176 false) (fun c => obv (.of (ld1 h189 v_188) h189) fun v => c v h189) h189 fun v_190 h191 =>
gd (wantB v_176 false) (fun c => obv (.of (aBin P .eql 3 (.tmp 105) (.tmp 107) v_186 v_190) h191) fun v => c v h191) h191 fun v_192 h193 =>
gd (wantB v_176 false) (fun c => obv (.val v_192 h193) fun v => c v h193) h193 fun v_194 h195 =>
gd (wantB v_194 true) (fun c => obv (.val (t 0) h195) fun v => c v h195) h195 fun v_196 h197 =>
gd (wantB v_194 true) (fun c => obv (.val (t 10) h197) fun v => c v h197) h197 fun v_198 h199 =>
gd (wantB v_194 true) (fun c => obv (.of (ixsR 4 v_196 v_198) h199) fun v => c v h199) h199 fun v_200 h201 =>
gd (wantB v_194 true) (fun c => obv (.of (fadR 2 v_200) h201) fun v => c v h201) h201 fun v_202 h203 =>
gd (wantB v_194 true) (fun c => obv (.of (ld1 h203 v_202) h203) fun v => c v h203) h203 fun v_204 h205 =>
gd (wantB v_194 true) (fun c => obv (.of (fadR 2 (t 6)) h205) fun v => c v h205) h205 fun v_206 h207 =>
gd (wantB v_194 true) (fun c => obv (.of (ld1 h207 v_206) h207) fun v => c v h207) h207 fun v_208 h209 =>
gd (wantB v_194 true) (fun c => obv (.of (aBin P .gtr 3 (.tmp 114) (.tmp 116) v_204 v_208) h209) fun v => c v h209) h209 fun v_210 h211 =>
gd (wantB v_176 false) (fun c => obv (pkR v_194 v_210 (.bool false) h211) fun v => c v h211) h211 fun v_212 h213 =>
gd (wantB v_159 true) (fun c => obv (pkR v_176 (.bool true) v_212 h213) fun v => c v h213) h213 fun v_214 h215 =>
obv (pkR v_159 v_214 (.bool false) h215) fun v_216 =>
cb v_216 (
arb (.val (.bool true) h215) call fun in_217 h218 =>
arb (.val (t 7) h218) call fun v_219 h220 =>
arb (.of (ldn 4 h220 (t 6)) h220) call fun v_221 h222 =>
arb (bslR 4 [(.int .i64 0), (.int .i64 0), (.int .i64 0), .nils] 1 h222 [(0, 4, v_221)]) call fun v_223 h224 =>
arb (appR 4 48 h224 v_219 v_223) call fun v_225 h226 =>
arb (.val v_225 h226) call fun next_227 h228 =>
k150 .normal (upd (upd (upd (upd (upd (upd (upd (upd (upd (upd (upd (upd (upd (upd (upd (upd (upd (upd (upd (upd (upd (upd (upd (upd (upd (upd (upd (upd (upd (upd (upd (upd (upd (upd (upd (upd (upd (upd (upd (upd (upd (upd t 85 v_151) 86 v_152) 87 v_153) 88 v_154) 89 v_156) 90 v_158) 91 v_159) 92 v_160) 93 v_162) 94 v_164) 95 v_166) 96 v_168) 97 v_170) 98 v_172) 99 v_174) 100 v_176) 101 v_178) 102 v_180) 103 v_182) 104 v_184) 105 v_186) 106 v_188) 107 v_190) 108 v_192) 109 v_194) 110 v_196) 111 v_198) 112 v_200) 113 v_202) 114 v_204) 115 v_206) 116 v_208) 117 v_210) 118 v_212) 119 v_214) 120 v_216) 8 in_217) 121 v_219) 122 v_221) 123 v_223) 124 v_225) 7 next_227) h228) (
k150 .normal (upd (upd (upd (upd (upd (upd (upd (upd (upd (upd (upd (upd (upd (upd (upd (upd (upd (upd (upd (upd (upd (upd (upd (upd (upd (upd (upd (upd (upd (upd (upd (upd (upd (upd (upd (upd t 85 v_151) 86 v_152) 87 v_153) 88 v_154) 89 v_156) 90 v_158) 91 v_159) 92 v_160) 93 v_162) 94 v_164) 95 v_166) 96 v_168) 97 v_170) 98 v_172) 99 v_174) 100 v_176) 101 v_178) 102 v_180) 103 v_182) 104 v_184) 105 v_186) 106 v_188) 107 v_190) 108 v_192) 109 v_194) 110 v_196) 111 v_198) 112 v_200) 113 v_202) 114 v_204) 115 v_206) 116 v_208) 117 v_210) 118 v_212) 119 v_214) 120 v_216) h215)

def J_precentorref9_Apply_9 (P : Program) (call : FuncId → List AVal → Heap → Res AVal) (fuel : Nat) (k : Kn (Ex × T)) (t : T) (h : Heap) : Res (Ex × T) :=
lt (sqK (J_precentorref9_Apply_10 P call fuel k) k) fun k229 =>
arb (.val (t 9) h) call fun v_230 h231 =>
arb (.val v_230 h231) call fun v_232 h233 =>
gd (wantB v_232 true) (fun c => arb (.val (t 11) h233) call c) h233 fun v_234 h235 =>
arb (pkR v_232 v_234 (.bool false) h235) call fun v_236 h237 =>
arb (.val v_236 h237) call fun v_238 h239 =>
gd (wantB v_238 true) (fun c => arb (.val (t 8) h239) call c) h239 fun v_240 h241 =>
gd (wantB v_238 true) (fun c => arb (.of (aUn P .not v_240) h241) call c) h241 fun v_242 h243 =>
arb (pkR v_238 v_242 (.bool false) h243) call fun v_244 h245 =>
cb v_244 (
arb (.val (.bool true) h245) call fun in_246 h247 =>
arb (.val (t 7) h247) call fun v_248 h249 =>
arb (.of (ldn 4 h249 (t 6)) h249) call fun v_250 h251 =>
arb (bslR 4 [(.int .i64 0), (.int .i64 0), (.int .i64 0), .nils] 1 h251 [(0, 4, v_250)]) call fun v_252 h253 =>
arb (appR 4 48 h253 v_248 v_252) call fun v_254 h255 =>
arb (.val v_254 h255) call fun next_256 h257 =>
k229 (.exit 3) (upd (upd (upd (upd (upd (upd (upd (upd (upd (upd (upd (upd (upd (upd t 73 v_230) 74 v_232) 75 v_234) 76 v_236) 77 v_238) 78 v_240) 79 v_242) 80 v_244) 8 in_246) 81 v_248) 82 v_250) 83 v_252) 84 v_254) 7 next_256) h257) (
k229 .normal (upd (upd (upd (upd (upd (upd (upd (upd t 73 v_230) 74 v_232) 75 v_234) 76 v_236) 77 v_238) 78 v_240) 79 v_242) 80 v_244) h245)

def J_precentorref9_Apply_7 (P : Program) (call : FuncId → List AVal → Heap → Res AVal) (fuel : Nat) (k : Kn (Ex × T)) (t : T) (h : Heap) : Res (Ex × T) :=
lt (sqK (J_precentorref9_Apply_8 P call fuel k) k) fun k105 =>
lt (blkK 3 k105) fun k106 =>
obv (.val (t 0) h) fun v_107 =>
obv (.val (t 10) h) fun v_108 =>
obv (.of (ixsR 4 v_107 v_108) h) fun v_109 =>
obv (.of (fadR 0 v_109) h) fun v_110 =>
obv (.of (ld1 h v_110) h) fun v_111 =>
obv (.of (fadR 0 (t 6)) h) fun v_112 =>
obv (.of (ld1 h v_112) h) fun v_113 =>
obv (.of (aBin P .eql 3 (.tmp 51) (.tmp 53) v_111 v_113) h) fun v_114 =>
obv (.val v_114 h) fun v_115 =>
gd (wantB v_115 true) (fun c => obv (.val (t 0) h) fun v => c v h) h fun v_116 h117 =>
gd (wantB v_115 true) (fun c => obv (.val (t 10) h117) fun v => c v h117) h117 fun v_118 h119 =>
gd (wantB v_115 true) (fun c => obv (.of (ixsR 4 v_116 v_118) h119) fun v => c v h119) h119 fun v_120 h121 =>
gd (wantB v_115 true) (fun c => obv (.of (fadR 2 v_120) h121) fun v => c v h121) h121 fun v_122 h123 =>
gd (wantB v_115 true) (fun c => obv (.of (ld1 h123 v_122) h123) fun v => c v h123) h123 fun v_124 h125 =>
gd (wantB v_115 true) (fun c => obv (.of (fadR 2 (t 6)) h125) fun v => c v h125) h125 fun v_126 h127 =>
gd (wantB v_115 true) (fun c => obv (.of (ld1 h127 v_126) h127) fun v => c v h127) h127 fun v_128 h129 =>
gd (wantB v_115 true) (fun c => obv (.of (aBin P .eql 3 (.tmp 60) (.tmp 62) v_124 v_128) h129) fun v => c v h129) h129 fun v_130 h131 =>
obv (pkR v_115 v_130 (.bool false) h131) fun v_132 =>
obv (.val v_132 h131) fun same_133 =>
lt (sqK (J_precentorref9_Apply_9 P call fuel k106) k106) fun k258 =>
arb (.val (t 1) h131) call fun v_259 h260 =>
arb (.val (t 5) h260) call fun v_261 h262 =>
arb (.of (ixsR 5 v_259 v_261) h262) call fun v_263 h264 =>
arb (.of (fadR 0 v_263) h264) call fun v_265 h266 =>
arb (.of (ld1 h266 v_265) h266) call fun v_267 h268 =>
arb (.val v_267 h268) call fun v_269 h270 =>
gd (wantB v_269 true) (fun c => arb (.val same_133 h270) call c) h270 fun v_271 h272 =>
arb (pkR v_269 v_271 (.bool false) h272) call fun v_273 h274 =>
cb v_273 (
k258 (.exit 3) (upd (upd (upd (upd (upd (upd (upd (upd (upd (upd (upd (upd (upd (upd (upd (upd (upd (upd (upd (upd (upd (upd (upd (upd (upd (upd (upd t 47 v_107) 48 v_108) 49 v_109) 50 v_110) 51 v_111) 52 v_112) 53 v_113) 54 v_114) 55 v_115) 56 v_116) 57 v_118) 58 v_120) 59 v_122) 60 v_124) 61 v_126) 62 v_128) 63 v_130) 64 v_132) 11 same_133) 65 v_259) 66 v_261) 67 v_263) 68 v_265) 69 v_267) 70 v_269) 71 v_271) 72 v_273) h274) (
k258 .normal (upd (upd (upd (upd (upd (upd (upd (upd (upd (upd (upd (upd (upd (upd (upd (upd (upd (upd (upd (upd (upd (upd (upd (upd (upd (upd (upd t 47 v_107) 48 v_108) 49 v_109) 50 v_110) 51 v_111) 52 v_112) 53 v_113) 54 v_114) 55 v_115) 56 v_116) 57 v_118) 58 v_120) 59 v_122) 60 v_124) 61 v_126) 62 v_128) 63 v_130) 64 v_132) 11 same_133) 65 v_259) 66 v_261) 67 v_263) 68 v_265) 69 v_267) 70 v_269) 71 v_271) 72 v_273) h274)

def L_precentorref9_Apply_6 (P : Program) (call : FuncId → List AVal → Heap → Res AVal) (fuel : Nat) (t : T) (h : Heap) : Res (Ex × T) :=
lt okK fun k =>
lt (sqK (J_precentorref9_Apply_7 P call fuel k) k) fun k275 =>
arb (.val (t 10) h) call fun v_276 h277 =>
arb (.val (t 0) h277) call fun v_278 h279 =>
arb (.of (lenL v_278) h279) call fun v_280 h281 =>
arb (.of (aBin P .lss 3 (.tmp 41) (.tmp 43) v_276 v_280) h281) call fun v_282 h283 =>
cb v_282 (
k275 .normal (upd (upd (upd (upd t 41 v_276) 42 v_278) 43 v_280) 44 v_282) h283) (
k275 (.exit 2) (upd (upd (upd (upd t 41 v_276) 42 v_278) 43 v_280) 44 v_282) h283)

def J_precentorref9_Apply_2 (P : Program) (call : FuncId → List AVal → Heap → Res AVal) (fuel : Nat) (k : Kn (Ex × T)) (t : T) (h : Heap) : Res (Ex × T) :=
lt (sqK (J_precentorref9_Apply_3 P call fuel k) k) fun k24 =>
lt (blkK 1 k24) fun k25 =>
arb (.val (t 1) h) call fun v_26 h27 =>
arb (.val (t 5) h27) call fun v_28 h29 =>
arb (.of (ixsR 5 v_26 v_28) h29) call fun v_30 h31 =>
arb (.of (fadR 1 v_30) h31) call fun v_32 h33 =>
arb (.of (ldn 4 h33 v_32) h33) call fun v_34 h35 =>
arb (newR [(.int .i64 0), (.int .i64 0), (.int .i64 0), .nils] h35) call fun s_36 h37 =>
arb (stR 4 h37 s_36 v_34) call fun v_38 h39 =>
arb (.val .nils h39) call fun next_40 h41 =>
arb (.val (t 1) h41) call fun v_42 h43 =>
arb (.val (t 5) h43) call fun v_44 h45 =>
arb (.of (ixsR 5 v_42 v_44) h45) call fun v_46 h47 =>
arb (.of (fadR 0 v_46) h47) call fun v_48 h49 =>
arb (.of (ld1 h49 v_48) h49) call fun v_50 h51 =>
arb (.val v_50 h51) call fun in_52 h53 =>
arb (.val in_52 h53) call fun v_54 h55 =>
arb (.of (aUn P .not v_54) h55) call fun v_56 h57 =>
arb (.val v_56 h57) call fun v_58 h59 =>
gd (wantB v_58 true) (fun c => arb (.val (t 0) h59) call c) h59 fun v_60 h61 =>
gd (wantB v_58 true) (fun c => arb (.of (fadR 0 s_36) h61) call c) h61 fun v_62 h63 =>
gd (wantB v_58 true) (fun c => arb (.of (ld1 h63 v_62) h63) call c) h63 fun v_64 h65 =>
gd (wantB v_58 true) (fun c => arb (.of (fadR 2 s_36) h65) call c) h65 fun v_66 h67 =>
gd (wantB v_58 true) (fun c => arb (.of (ld1 h67 v_66) h67) call c) h67 fun v_68 h69 =>
gd (wantB v_58 true) (fun c => arb (.call F_precentorref9_Has [v_60, v_64, v_68] h69) call c) h69 fun v_70 h71 =>
arb (pkR v_58 v_70 (.bool false) h71) call fun v_72 h73 =>
arb (.val v_72 h73) call fun there_74 h75 =>
lt (sqK (J_precentorref9_Apply_4 P call fuel k25) k25) fun k95 =>
arb (.val (.int .i64 0) h75) call fun k_96 h97 =>
lt (blkK 2 k95) fun k98 =>
(loopN (L_precentorref9_Apply_6 P call fuel) fuel (upd (upd (upd (upd (upd (upd (upd (upd (upd (upd (upd (upd (upd (upd (upd (upd (upd (upd (upd (upd (upd (upd (upd (upd (upd t 21 v_26) 22 v_28) 23 v_30) 24 v_32) 25 v_34) 6 s_36) 7 next_40) 26 v_42) 27 v_44) 28 v_46) 29 v_48) 30 v_50) 8 in_52) 31 v_54) 32 v_56) 33 v_58) 34 v_60) 35 v_62) 36 v_64) 37 v_66) 38 v_68) 39 v_70) 40 v_72) 9 there_74) 10 k_96) h97).bind (lpK k98)

def L_precentorref9_Apply_1 (P : Program) (call : FuncId → List AVal → Heap → Res AVal) (fuel : Nat) (t : T) (h : Heap) : Res (Ex × T) :=
lt okK fun k =>
lt (sqK (J_precentorref9_Apply_2 P call fuel k) k) fun k284 =>
arb (.val (t 5) h) call fun v_285 h286 =>
arb (.val (t 1) h286) call fun v_287 h288 =>
arb (.of (lenL v_287) h288) call fun v_289 h290 =>
arb (.of (aBin P .lss 3 (.tmp 15) (.tmp 17) v_285 v_289) h290) call fun v_291 h292 =>
cb v_291 (
k284 .normal (upd (upd (upd (upd t 15 v_285) 16 v_287) 17 v_289) 18 v_291) h292) (
k284 (.exit 0) (upd (upd (upd (upd t 15 v_285) 16 v_287) 17 v_289) 18 v_291) h292)

def S_precentorref9_Apply (P : Program) (call : FuncId → List AVal → Heap → Res AVal) (fuel : Nat) (l_a0 ch_a1 : AVal) (h : Heap) : Res AVal :=
lt (retK P [.tmp 4]) fun k =>
arb (.val .nils h) call fun v_0 h1 =>
arb (bslR 4 [] 0 h1 []) call fun v_2 h3 =>
arb (.val l_a0 h3) call fun v_4 h5 =>
arb (appR 4 48 h5 v_2 v_4) call fun v_6 h7 =>
arb (.val v_6 h7) call fun l_8 h9 =>
lt (sqK (J_precentorref9_Apply_0 P call fuel k) k) fun k14 =>
arb (.val (.int .i64 0) h9) call fun i_15 h16 =>
lt (blkK 0 k14) fun k17 =>
(loopN (L_precentorref9_Apply_1 P call fuel) fuel (upd (upd (upd (upd (upd (upd (enterT [l_a0, ch_a1]) 4 v_0) 12 v_2) 13 v_4) 14 v_6) 0 l_8) 5 i_15) h16).bind (lpK k17)
theorem E_precentorref9_Apply (call : FuncId → List AVal → Heap → Res AVal) (fuel : Nat) (l_a0 ch_a1 : AVal) (h : Heap) : bodyR Try.prog call fuel Try.f25 [l_a0, ch_a1] h = S_precentorref9_Apply Try.prog call fuel l_a0 ch_a1 h := by kernel_rfl
theorem R_precentorref9_Apply {X : XTab} (l_a0 ch_a1 : AVal) {h : Heap} {Q : AVal → Heap → Prop} (hx : X F_precentorref9_Apply [l_a0, ch_a1] = none) (q : Tells (fun m => S_precentorref9_Apply Try.prog (acallX Try.prog X m) m l_a0 ch_a1 h) Q) :
    Tells (fun m => acallX Try.prog X m F_precentorref9_Apply [l_a0, ch_a1] h) Q :=
  Tells.later (q.le fun m => (E_precentorref9_Apply (acallX Try.prog X m) m l_a0 ch_a1 h) ▸ acallX_le Try.func25 hx m h)

/-! ### precentor/precentorref9.Has -/
def J_precentorref9_Has_0 (P : Program) (call : FuncId → List AVal → Heap → Res AVal) (fuel : Nat) (k : Kn (AVal)) (t : T) (h : Heap) : Res (AVal) :=
arb (.val (.bool false) h) call fun v_2 h3 =>
k .ret (upd t 6 v_2) h3

def J_precentorref9_Has_3 (P : Program) (call : FuncId → List AVal → Heap → Res AVal) (fuel : Nat) (k : Kn (Ex × T)) (t : T) (h : Heap) : Res (Ex × T) :=
arb (.val (t 7) h) call fun v_8 h9 =>
arb (.of (aBin P .add 3 (.tmp 12) (.const (.int .i64 1)) v_8 (.int .i64 1)) h9) call fun v_10 h11 =>
arb (.val v_10 h11) call fun i_12 h13 =>
k .normal (upd (upd (upd t 12 v_8) 13 v_10) 7 i_12) h13

def J_precentorref9_Has_2 (P : Program) (call : FuncId → List AVal → Heap → Res AVal) (fuel : Nat) (k : Kn (Ex × T)) (t : T) (h : Heap) : Res (Ex × T) :=
lt (sqK (J_precentorref9_Has_3 P call fuel k) k) fun k14 =>
lt (blkK 1 k14) fun k15 =>
arb (.val (t 0) h) call fun v_16 h17 =>
arb (.val (t 7) h17) call fun v_18 h19 =>
arb (.of (ixsR 4 v_16 v_18) h19) call fun v_20 h21 =>
arb (.of (fadR 0 v_20) h21) call fun v_22 h23 =>
arb (.of (ld1 h23 v_22) h23) call fun v_24 h25 =>
arb (.val (t 1) h25) call fun v_26 h27 =>
arb (.of (aBin P .eql 3 (.tmp 18) (.tmp 19) v_24 v_26) h27) call fun v_28 h29 =>
arb (.val v_28 h29) call fun v_30 h31 =>
gd (wantB v_30 true) (fun c => arb (.val (t 0) h31) call c) h31 fun v_32 h33 =>
gd (wantB v_30 true) (fun c => arb (.val (t 7) h33) call c) h33 fun v_34 h35 =>
gd (wantB v_30 true) (fun c => arb (.of (ixsR 4 v_32 v_34) h35) call c) h35 fun v_36 h37 =>
gd (wantB v_30 true) (fun c => arb (.of (fadR 2 v_36) h37) call c) h37 fun v_38 h39 =>
gd (wantB v_30 true) (fun c => arb (.of (ld1 h39 v_38) h39) call c) h39 fun v_40 h41 =>
gd (wantB v_30 true) (fun c => arb (.val (t 2) h41) call c) h41 fun v_42 h43 =>
gd (wantB v_30 true) (fun c => arb (.of (aBin P .eql 3 (.tmp 26) (.tmp 27) v_40 v_42) h43) call c) h43 fun v_44 h45 =>
arb (pkR v_30 v_44 (.bool false) h45) call fun v_46 h47 =>
cb v_46 (
arb (.val (.bool true) h47) call fun v_48 h49 =>
k15 .ret (upd (upd (upd (upd (upd (upd (upd (upd (upd (upd (upd (upd (upd (upd (upd (upd (upd t 14 v_16) 15 v_18) 16 v_20) 17 v_22) 18 v_24) 19 v_26) 20 v_28) 21 v_30) 22 v_32) 23 v_34) 24 v_36) 25 v_38) 26 v_40) 27 v_42) 28 v_44) 29 v_46) 6 v_48) h49) (
k15 .normal (upd (upd (upd (upd (upd (upd (upd (upd (upd (upd (upd (upd (upd (upd (upd (upd t 14 v_16) 15 v_18) 16 v_20) 17 v_22) 18 v_24) 19 v_26) 20 v_28) 21 v_30) 22 v_32) 23 v_34) 24 v_36) 25 v_38) 26 v_40) 27 v_42) 28 v_44) 29 v_46) h47)

def L_precentorref9_Has_1 (P : Program) (call : FuncId → List AVal → Heap → Res AVal) (fuel : Nat) (t : T) (h : Heap) : Res (Ex × T) :=
lt okK fun k =>
lt (sqK (J_precentorref9_Has_2 P call fuel k) k) fun k50 =>
arb (.val (t 7) h) call fun v_51 h52 =>
arb (.val (t 0) h52) call fun v_53 h54 =>
arb (.of (lenL v_53) h54) call fun v_55 h56 =>
arb (.of (aBin P .lss 3 (.tmp 8) (.tmp 10) v_51 v_55) h56) call fun v_57 h58 =>
cb v_57 (
k50 .normal (upd (upd (upd (upd t 8 v_51) 9 v_53) 10 v_55) 11 v_57) h58) (
k50 (.exit 0) (upd (upd (upd (upd t 8 v_51) 9 v_53) 10 v_55) 11 v_57) h58)

def S_precentorref9_Has (P : Program) (call : FuncId → List AVal → Heap → Res AVal) (fuel : Nat) (l_a0 client_a1 num_a2 : AVal) (h : Heap) : Res AVal :=
lt (retK P [.tmp 6]) fun k =>
arb (.val (.bool false) h) call fun v_0 h1 =>
lt (sqK (J_precentorref9_Has_0 P call fuel k) k) fun k4 =>
arb (.val (.int .i64 0) h1) call fun i_5 h6 =>
lt (blkK 0 k4) fun k7 =>
(loopN (L_precentorref9_Has_1 P call fuel) fuel (upd (upd (enterT [l_a0, client_a1, num_a2]) 6 v_0) 7 i_5) h6).bind (lpK k7)
theorem E_precentorref9_Has (call : FuncId → List AVal → Heap → Res AVal) (fuel : Nat) (l_a0 client_a1 num_a2 : AVal) (h : Heap) : bodyR Try.prog call fuel Try.f43 [l_a0, client_a1, num_a2] h = S_precentorref9_Has Try.prog call fuel l_a0 client_a1 num_a2 h := by kernel_rfl
theorem R_precentorref9_Has {X : XTab} (l_a0 client_a1 num_a2 : AVal) {h : Heap} {Q : AVal → Heap → Prop} (hx : X F_precentorref9_Has [l_a0, client_a1, num_a2] = none) (q : Tells (fun m => S_precentorref9_Has Try.prog (acallX Try.prog X m) m l_a0 client_a1 num_a2 h) Q) :
    Tells (fun m => acallX Try.prog X m F_precentorref9_Has [l_a0, client_a1, num_a2] h) Q :=
  Tells.later (q.le fun m => (E_precentorref9_Has (acallX Try.prog X m) m l_a0 client_a1 num_a2 h) ▸ acallX_le Try.func43 hx m h)

/-! ### precentor/precentorref9.Of -/
def J_precentorref9_Of_0 (P : Program) (call : FuncId → List AVal → Heap → Res AVal) (fuel : Nat) (k : Kn (AVal)) (t : T) (h : Heap) : Res (AVal) :=
arb (.val (t 5) h) call fun v_4 h5 =>
arb (.val v_4 h5) call fun v_6 h7 =>
k .ret (upd (upd t 27 v_4) 4 v_6) h7

def J_precentorref9_Of_3 (P : Program) (call : FuncId → List AVal → Heap → Res AVal) (fuel : Nat) (k : Kn (Ex × T)) (t : T) (h : Heap) : Res (Ex × T) :=
arb (.val (t 6) h) call fun v_12 h13 =>
arb (.of (aBin P .add 3 (.tmp 11) (.const (.int .i64 1)) v_12 (.int .i64 1)) h13) call fun v_14 h15 =>
arb (.val v_14 h15) call fun i_16 h17 =>
k .normal (upd (upd (upd t 11 v_12) 12 v_14) 6 i_16) h17

def J_precentorref9_Of_2 (P : Program) (call : FuncId → List AVal → Heap → Res AVal) (fuel : Nat) (k : Kn (Ex × T)) (t : T) (h : Heap) : Res (Ex × T) :=
lt (sqK (J_precentorref9_Of_3 P call fuel k) k) fun k18 =>
lt (blkK 1 k18) fun k19 =>
arb (.val (t 0) h) call fun v_20 h21 =>
arb (.val (t 6) h21) call fun v_22 h23 =>
arb (.of (ixsR 4 v_20 v_22) h23) call fun v_24 h25 =>
arb (.of (fadR 0 v_24) h25) call fun v_26 h27 =>
arb (.of (ld1 h27 v_26) h27) call fun v_28 h29 =>
arb (.val (t 1) h29) call fun v_30 h31 =>
arb (.of (aBin P .eql 3 (.tmp 17) (.tmp 18) v_28 v_30) h31) call fun v_32 h33 =>
cb v_32 (
arb (.val (t 5) h33) call fun v_34 h35 =>
arb (.val (t 0) h35) call fun v_36 h37 =>
arb (.val (t 6) h37) call fun v_38 h39 =>
arb (.of (ixsR 4 v_36 v_38) h39) call fun v_40 h41 =>
arb (.of (ldn 4 h41 v_40) h41) call fun v_42 h43 =>
arb (bslR 4 [(.int .i64 0), (.int .i64 0), (.int .i64 0), .nils] 1 h43 [(0, 4, v_42)]) call fun v_44 h45 =>
arb (appR 4 48 h45 v_34 v_44) call fun v_46 h47 =>
arb (.val v_46 h47) call fun out_48 h49 =>
k19 .normal (upd (upd (upd (upd (upd (upd (upd (upd (upd (upd (upd (upd (upd (upd (upd t 13 v_20) 14 v_22) 15 v_24) 16 v_26) 17 v_28) 18 v_30) 19 v_32) 20 v_34) 21 v_36) 22 v_38) 23 v_40) 24 v_42) 25 v_44) 26 v_46) 5 out_48) h49) (
k19 .normal (upd (upd (upd (upd (upd (upd (upd t 13 v_20) 14 v_22) 15 v_24) 16 v_26) 17 v_28) 18 v_30) 19 v_32) h33)

def L_precentorref9_Of_1 (P : Program) (call : FuncId → List AVal → Heap → Res AVal) (fuel : Nat) (t : T) (h : Heap) : Res (Ex × T) :=
lt okK fun k =>
lt (sqK (J_precentorref9_Of_2 P call fuel k) k) fun k50 =>
arb (.val (t 6) h) call fun v_51 h52 =>
arb (.val (t 0) h52) call fun v_53 h54 =>
arb (.of (lenL v_53) h54) call fun v_55 h56 =>
arb (.of (aBin P .lss 3 (.tmp 7) (.tmp 9) v_51 v_55) h56) call fun v_57 h58 =>
cb v_57 (
k50 .normal (upd (upd (upd (upd t 7 v_51) 8 v_53) 9 v_55) 10 v_57) h58) (
k50 (.exit 0) (upd (upd (upd (upd t 7 v_51) 8 v_53) 9 v_55) 10 v_57) h58)

def S_precentorref9_Of (P : Program) (call : FuncId → List AVal → Heap → Res AVal) (fuel : Nat) (l_a0 client_a1 : AVal) (h : Heap) : Res AVal :=
lt (retK P [.tmp 4]) fun k =>
arb (.val .nils h) call fun v_0 h1 =>
arb (.val .nils h1) call fun out_2 h3 =>
lt (sqK (J_precentorref9_Of_0 P call fuel k) k) fun k8 =>
arb (.val (.int .i64 0) h3) call fun i_9 h10 =>
lt (blkK 0 k8) fun k11 =>
(loopN (L_precentorref9_Of_1 P call fuel) fuel (upd (upd (upd (enterT [l_a0, client_a1]) 4 v_0) 5 out_2) 6 i_9) h10).bind (lpK k11)
theorem E_precentorref9_Of (call : FuncId → List AVal → Heap → Res AVal) (fuel : Nat) (l_a0 client_a1 : AVal) (h : Heap) : bodyR Try.prog call fuel Try.f44 [l_a0, client_a1] h = S_precentorref9_Of Try.prog call fuel l_a0 client_a1 h := by kernel_rfl
theorem R_precentorref9_Of {X : XTab} (l_a0 client_a1 : AVal) {h : Heap} {Q : AVal → Heap → Prop} (hx : X F_precentorref9_Of [l_a0, client_a1] = none) (q : Tells (fun m => S_precentorref9_Of Try.prog (acallX Try.prog X m) m l_a0 client_a1 h) Q) :
    Tells (fun m => acallX Try.prog X m F_precentorref9_Of [l_a0, client_a1] h) Q :=
  Tells.later (q.le fun m => (E_precentorref9_Of (acallX Try.prog X m) m l_a0 client_a1 h) ▸ acallX_le Try.func44 hx m h)


end Go.Proofs.Ytbolfamaffbnnaa
