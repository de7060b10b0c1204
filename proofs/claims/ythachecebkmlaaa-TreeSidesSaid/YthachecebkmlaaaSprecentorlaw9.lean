/-
  Functions of precentorlaw9 in the form of YthachecebkmlaaaABS (printed by a program of ours, gen.lean).
-/
import Derived.Test.YthachecebkmlaaaSIds
set_option linter.unusedVariables false
namespace Go.Proofs.Ythachecebkmlaaa
open Go.Ab
/-! ### precentor/precentorlaw9.TreeTells -/
def J_precentorlaw9_TreeTells_2 (P : Program) (call : FuncId → List AVal → Heap → Res AVal) (fuel : Nat) (k : Kn (AVal)) (t : T) (h : Heap) : Res (AVal) :=
arb (.val (t 11) h) call fun v_68 h69 =>
arb (.val v_68 h69) call fun v_70 h71 =>
gd (wantB v_70 true) (fun c => arb (.val (t 10) h71) call c) h71 fun v_72 h73 =>
gd (wantB v_70 true) (fun c => arb (.val (t 16) h73) call c) h73 fun v_74 h75 =>
gd (wantB v_70 true) (fun c => arb (.call F_tree_Place [v_72, v_74] h75) call c) h75 fun v_76 h77 =>
gd (wantB v_70 true) (fun c => arb (.val (t 10) h77) call c) h77 fun v_78 h79 =>
gd (wantB v_70 true) (fun c => arb (.val (t 16) h79) call c) h79 fun v_80 h81 =>
gd (wantB v_70 true) (fun c => arb (.call F_precentorref9_Place [v_78, v_80] h81) call c) h81 fun v_82 h83 =>
gd (wantB v_70 true) (fun c => arb (.of (aBin P .eql 3 (.tmp 141) (.tmp 144) v_76 v_82) h83) call c) h83 fun v_84 h85 =>
arb (pkR v_70 v_84 (.bool false) h85) call fun v_86 h87 =>
arb (.val v_86 h87) call fun v_88 h89 =>
k .ret (upd (upd (upd (upd (upd (upd (upd (upd (upd (upd (upd t 137 v_68) 138 v_70) 139 v_72) 140 v_74) 141 v_76) 142 v_78) 143 v_80) 144 v_82) 145 v_84) 146 v_86) 8 v_88) h89

def J_precentorlaw9_TreeTells_1 (P : Program) (call : FuncId → List AVal → Heap → Res AVal) (fuel : Nat) (k : Kn (AVal)) (t : T) (h : Heap) : Res (AVal) :=
lt (sqK (J_precentorlaw9_TreeTells_2 P call fuel k) k) fun k90 =>
arb (.val (t 2) h) call fun v_91 h92 =>
arb (.of (aBin P .rem 3 (.tmp 130) (.const (.int .i64 9)) v_91 (.int .i64 9)) h92) call fun v_93 h94 =>
arb (.of (aBin P .eql 3 (.tmp 131) (.const (.int .i64 0)) v_93 (.int .i64 0)) h94) call fun v_95 h96 =>
cb v_95 (
arb (.val (t 16) h96) call fun v_97 h98 =>
arb (.val (t 2) h98) call fun v_99 h100 =>
arb (bslR 1 [(.int .i64 0)] 1 h100 [(0, 1, v_99)]) call fun v_101 h102 =>
arb (appR 1 8 h102 v_97 v_101) call fun v_103 h104 =>
arb (.val v_103 h104) call fun q_105 h106 =>
k90 .normal (upd (upd (upd (upd (upd (upd (upd (upd t 130 v_91) 131 v_93) 132 v_95) 133 v_97) 134 v_99) 135 v_101) 136 v_103) 16 q_105) h106) (
k90 .normal (upd (upd (upd t 130 v_91) 131 v_93) 132 v_95) h96)

def J_precentorlaw9_TreeTells_5 (P : Program) (call : FuncId → List AVal → Heap → Res AVal) (fuel : Nat) (k : Kn (Ex × T)) (t : T) (h : Heap) : Res (Ex × T) :=
arb (.val (t 17) h) call fun v_111 h112 =>
arb (.of (aBin P .add 3 (.tmp 117) (.const (.int .i64 1)) v_111 (.int .i64 1)) h112) call fun v_113 h114 =>
arb (.val v_113 h114) call fun i_115 h116 =>
k .normal (upd (upd (upd t 117 v_111) 118 v_113) 17 i_115) h116

def J_precentorlaw9_TreeTells_4 (P : Program) (call : FuncId → List AVal → Heap → Res AVal) (fuel : Nat) (k : Kn (Ex × T)) (t : T) (h : Heap) : Res (Ex × T) :=
lt (sqK (J_precentorlaw9_TreeTells_5 P call fuel k) k) fun k117 =>
lt (blkK 3 k117) fun k118 =>
arb (.val (t 16) h) call fun v_119 h120 =>
arb (.val (t 3) h120) call fun v_121 h122 =>
arb (.val (t 17) h122) call fun v_123 h124 =>
arb (.of (ixsR 1 v_121 v_123) h124) call fun v_125 h126 =>
arb (.of (ld1 h126 v_125) h126) call fun v_127 h128 =>
arb (.val (t 10) h128) call fun v_129 h130 =>
arb (.of (lenL v_129) h130) call fun v_131 h132 =>
arb (.of (aBin P .add 3 (.tmp 125) (.const (.int .i64 1)) v_131 (.int .i64 1)) h132) call fun v_133 h134 =>
arb (.call F_precentorhand_Pick [v_127, v_133] h134) call fun v_135 h136 =>
arb (bslR 1 [(.int .i64 0)] 1 h136 [(0, 1, v_135)]) call fun v_137 h138 =>
arb (appR 1 8 h138 v_119 v_137) call fun v_139 h140 =>
arb (.val v_139 h140) call fun q_141 h142 =>
k118 .normal (upd (upd (upd (upd (upd (upd (upd (upd (upd (upd (upd (upd t 119 v_119) 120 v_121) 121 v_123) 122 v_125) 123 v_127) 124 v_129) 125 v_131) 126 v_133) 127 v_135) 128 v_137) 129 v_139) 16 q_141) h142

def L_precentorlaw9_TreeTells_3 (P : Program) (call : FuncId → List AVal → Heap → Res AVal) (fuel : Nat) (t : T) (h : Heap) : Res (Ex × T) :=
lt okK fun k =>
lt (sqK (J_precentorlaw9_TreeTells_4 P call fuel k) k) fun k143 =>
arb (.val (t 17) h) call fun v_144 h145 =>
arb (.val (t 3) h145) call fun v_146 h147 =>
arb (.of (lenL v_146) h147) call fun v_148 h149 =>
arb (.of (aBin P .lss 3 (.tmp 109) (.tmp 111) v_144 v_148) h149) call fun v_150 h151 =>
arb (.val v_150 h151) call fun v_152 h153 =>
gd (wantB v_152 true) (fun c => arb (.val (t 17) h153) call c) h153 fun v_154 h155 =>
gd (wantB v_152 true) (fun c => arb (.of (aBin P .lss 3 (.tmp 114) (.const (.int .i64 7)) v_154 (.int .i64 7)) h155) call c) h155 fun v_156 h157 =>
arb (pkR v_152 v_156 (.bool false) h157) call fun v_158 h159 =>
cb v_158 (
k143 .normal (upd (upd (upd (upd (upd (upd (upd (upd t 109 v_144) 110 v_146) 111 v_148) 112 v_150) 113 v_152) 114 v_154) 115 v_156) 116 v_158) h159) (
k143 (.exit 2) (upd (upd (upd (upd (upd (upd (upd (upd t 109 v_144) 110 v_146) 111 v_148) 112 v_150) 113 v_152) 114 v_154) 115 v_156) 116 v_158) h159)

def J_precentorlaw9_TreeTells_0 (P : Program) (call : FuncId → List AVal → Heap → Res AVal) (fuel : Nat) (k : Kn (AVal)) (t : T) (h : Heap) : Res (AVal) :=
arb (.val .nils h) call fun q_66 h67 =>
lt (sqK (J_precentorlaw9_TreeTells_1 P call fuel k) k) fun k107 =>
arb (.val (.int .i64 0) h67) call fun i_108 h109 =>
lt (blkK 2 k107) fun k110 =>
(loopN (L_precentorlaw9_TreeTells_3 P call fuel) fuel (upd (upd t 16 q_66) 17 i_108) h109).bind (lpK k110)

def J_precentorlaw9_TreeTells_8 (P : Program) (call : FuncId → List AVal → Heap → Res AVal) (fuel : Nat) (k : Kn (Ex × T)) (t : T) (h : Heap) : Res (Ex × T) :=
arb (.val (t 13) h) call fun v_164 h165 =>
arb (.of (aBin P .add 3 (.tmp 50) (.const (.int .i64 1)) v_164 (.int .i64 1)) h165) call fun v_166 h167 =>
arb (.val v_166 h167) call fun i_168 h169 =>
k .normal (upd (upd (upd t 50 v_164) 51 v_166) 13 i_168) h169

def J_precentorlaw9_TreeTells_7 (P : Program) (call : FuncId → List AVal → Heap → Res AVal) (fuel : Nat) (k : Kn (Ex × T)) (t : T) (h : Heap) : Res (Ex × T) :=
lt (sqK (J_precentorlaw9_TreeTells_8 P call fuel k) k) fun k170 =>
lt (blkK 1 k170) fun k171 =>
arb (.val (t 13) h) call fun v_172 h173 =>
arb (.of (ixpR 3 1 (t 12) v_172) h173) call fun v_174 h175 =>
arb (.of (ld1 h175 v_174) h175) call fun v_176 h177 =>
arb (.val v_176 h177) call fun a_178 h179 =>
arb (.val (t 13) h179) call fun v_180 h181 =>
arb (.of (aBin P .add 3 (.tmp 55) (.const (.int .i64 1)) v_180 (.int .i64 1)) h181) call fun v_182 h183 =>
arb (.of (aBin P .rem 3 (.tmp 56) (.const (.int .i64 3)) v_182 (.int .i64 3)) h183) call fun v_184 h185 =>
arb (.of (ixpR 3 1 (t 12) v_184) h185) call fun v_186 h187 =>
arb (.of (ld1 h187 v_186) h187) call fun v_188 h189 =>
arb (.val v_188 h189) call fun b_190 h191 =>
arb (.val (t 10) h191) call fun v_192 h193 =>
arb (.val a_178 h193) call fun v_194 h195 =>
arb (.call F_tree_Near [v_192, v_194] h195) call fun v_196 h197 =>
arb (.val (t 10) h197) call fun v_198 h199 =>
arb (.val a_178 h199) call fun v_200 h201 =>
arb (.call F_precentorref9_Near [v_198, v_200] h201) call fun v_202 h203 =>
arb (.call F_precentorlaw9_same [v_196, v_202] h203) call fun v_204 h205 =>
arb (.val v_204 h205) call fun v_206 h207 =>
gd (wantB v_206 true) (fun c => arb (.val (t 10) h207) call c) h207 fun v_208 h209 =>
gd (wantB v_206 true) (fun c => arb (.val a_178 h209) call c) h209 fun v_210 h211 =>
gd (wantB v_206 true) (fun c => arb (.call F_tree_Kids [v_208, v_210] h211) call c) h211 fun v_212 h213 =>
gd (wantB v_206 true) (fun c => arb (.val (t 10) h213) call c) h213 fun v_214 h215 =>
gd (wantB v_206 true) (fun c => arb (.val a_178 h215) call c) h215 fun v_216 h217 =>
gd (wantB v_206 true) (fun c => arb (.call F_precentorref9_Kids [v_214, v_216] h217) call c) h217 fun v_218 h219 =>
gd (wantB v_206 true) (fun c => arb (.call F_precentorlaw9_same [v_212, v_218] h219) call c) h219 fun v_220 h221 =>
arb (pkR v_206 v_220 (.bool false) h221) call fun v_222 h223 =>
arb (.val v_222 h223) call fun v_224 h225 =>
gd (wantB v_224 true) (fun c => arb (.val (t 10) h225) call c) h225 fun v_226 h227 =>
gd (wantB v_224 true) (fun c => arb (.val a_178 h227) call c) h227 fun v_228 h229 =>
gd (wantB v_224 true) (fun c => arb (.val b_190 h229) call c) h229 fun v_230 h231 =>
gd (wantB v_224 true) (fun c => arb (.call F_tree_Next [v_226, v_228, v_230] h231) call c) h231 fun v_232 h233 =>
gd (wantB v_224 true) (fun c => arb (.val (t 10) h233) call c) h233 fun v_234 h235 =>
gd (wantB v_224 true) (fun c => arb (.val a_178 h235) call c) h235 fun v_236 h237 =>
gd (wantB v_224 true) (fun c => arb (.val b_190 h237) call c) h237 fun v_238 h239 =>
gd (wantB v_224 true) (fun c => arb (.call F_precentorref9_Next [v_234, v_236, v_238] h239) call c) h239 fun v_240 h241 =>
gd (wantB v_224 true) (fun c => arb (.of (aBin P .eql 3 (.tmp 80) (.tmp 84) v_232 v_240) h241) call c) h241 fun v_242 h243 =>
arb (pkR v_224 v_242 (.bool false) h243) call fun v_244 h245 =>
arb (.val v_244 h245) call fun v_246 h247 =>
gd (wantB v_246 true) (fun c => arb (.val (t 10) h247) call c) h247 fun v_248 h249 =>
gd (wantB v_246 true) (fun c => arb (.val a_178 h249) call c) h249 fun v_250 h251 =>
gd (wantB v_246 true) (fun c => arb (.val b_190 h251) call c) h251 fun v_252 h253 =>
gd (wantB v_246 true) (fun c => arb (.call F_tree_Dist [v_248, v_250, v_252] h253) call c) h253 fun v_254 h255 =>
gd (wantB v_246 true) (fun c => arb (.val (t 10) h255) call c) h255 fun v_256 h257 =>
gd (wantB v_246 true) (fun c => arb (.val a_178 h257) call c) h257 fun v_258 h259 =>
gd (wantB v_246 true) (fun c => arb (.val b_190 h259) call c) h259 fun v_260 h261 =>
gd (wantB v_246 true) (fun c => arb (.call F_precentorref9_Dist [v_256, v_258, v_260] h261) call c) h261 fun v_262 h263 =>
gd (wantB v_246 true) (fun c => arb (.of (aBin P .eql 3 (.tmp 91) (.tmp 95) v_254 v_262) h263) call c) h263 fun v_264 h265 =>
arb (pkR v_246 v_264 (.bool false) h265) call fun v_266 h267 =>
arb (.val v_266 h267) call fun v_268 h269 =>
gd (wantB v_268 true) (fun c => arb (.val (t 10) h269) call c) h269 fun v_270 h271 =>
gd (wantB v_268 true) (fun c => arb (.val a_178 h271) call c) h271 fun v_272 h273 =>
gd (wantB v_268 true) (fun c => arb (.val b_190 h273) call c) h273 fun v_274 h275 =>
gd (wantB v_268 true) (fun c => arb (.call F_tree_Side [v_270, v_272, v_274] h275) call c) h275 fun v_276 h277 =>
gd (wantB v_268 true) (fun c => arb (.val (t 10) h277) call c) h277 fun v_278 h279 =>
gd (wantB v_268 true) (fun c => arb (.val a_178 h279) call c) h279 fun v_280 h281 =>
gd (wantB v_268 true) (fun c => arb (.val b_190 h281) call c) h281 fun v_282 h283 =>
gd (wantB v_268 true) (fun c => arb (.call F_precentorref9_Side [v_278, v_280, v_282] h283) call c) h283 fun v_284 h285 =>
gd (wantB v_268 true) (fun c => arb (.call F_precentorlaw9_same [v_276, v_284] h285) call c) h285 fun v_286 h287 =>
arb (pkR v_268 v_286 (.bool false) h287) call fun v_288 h289 =>
arb (.val v_288 h289) call fun ok_290 h291 =>
k171 .normal (upd (upd (upd (upd (upd (upd (upd (upd (upd (upd (upd (upd (upd (upd (upd (upd (upd (upd (upd (upd (upd (upd (upd (upd (upd (upd (upd (upd (upd (upd (upd (upd (upd (upd (upd (upd (upd (upd (upd (upd (upd (upd (upd (upd (upd (upd (upd (upd (upd (upd (upd (upd (upd (upd (upd (upd (upd (upd (upd (upd t 52 v_172) 53 v_174) 54 v_176) 14 a_178) 55 v_180) 56 v_182) 57 v_184) 58 v_186) 59 v_188) 15 b_190) 60 v_192) 61 v_194) 62 v_196) 63 v_198) 64 v_200) 65 v_202) 66 v_204) 67 v_206) 68 v_208) 69 v_210) 70 v_212) 71 v_214) 72 v_216) 73 v_218) 74 v_220) 75 v_222) 76 v_224) 77 v_226) 78 v_228) 79 v_230) 80 v_232) 81 v_234) 82 v_236) 83 v_238) 84 v_240) 85 v_242) 86 v_244) 87 v_246) 88 v_248) 89 v_250) 90 v_252) 91 v_254) 92 v_256) 93 v_258) 94 v_260) 95 v_262) 96 v_264) 97 v_266) 98 v_268) 99 v_270) 100 v_272) 101 v_274) 102 v_276) 103 v_278) 104 v_280) 105 v_282) 106 v_284) 107 v_286) 108 v_288) 11 ok_290) h291

def L_precentorlaw9_TreeTells_6 (P : Program) (call : FuncId → List AVal → Heap → Res AVal) (fuel : Nat) (t : T) (h : Heap) : Res (Ex × T) :=
lt okK fun k =>
lt (sqK (J_precentorlaw9_TreeTells_7 P call fuel k) k) fun k292 =>
arb (.val (t 13) h) call fun v_293 h294 =>
arb (.of (aBin P .lss 3 (.tmp 45) (.const (.int .i64 3)) v_293 (.int .i64 3)) h294) call fun v_295 h296 =>
arb (.val v_295 h296) call fun v_297 h298 =>
gd (wantB v_297 true) (fun c => arb (.val (t 11) h298) call c) h298 fun v_299 h300 =>
arb (pkR v_297 v_299 (.bool false) h300) call fun v_301 h302 =>
cb v_301 (
k292 .normal (upd (upd (upd (upd (upd t 45 v_293) 46 v_295) 47 v_297) 48 v_299) 49 v_301) h302) (
k292 (.exit 0) (upd (upd (upd (upd (upd t 45 v_293) 46 v_295) 47 v_297) 48 v_299) 49 v_301) h302)

def S_precentorlaw9_TreeTells (P : Program) (call : FuncId → List AVal → Heap → Res AVal) (fuel : Nat) (raw_a0 l_a1 odd_a2 many_a3 : AVal) (h : Heap) : Res AVal :=
lt (retK P [.tmp 8]) fun k =>
arb (.val (.bool false) h) call fun v_0 h1 =>
arb (.val l_a1 h1) call fun v_2 h3 =>
arb (.of (bldR [.nils, (.int .i64 0)] [(0, 1, v_2)]) h3) call fun v_4 h5 =>
arb (boxR v_4 h5) call fun v_6 h7 =>
arb (.val v_6 h7) call fun f_8 h9 =>
arb (.val raw_a0 h9) call fun v_10 h11 =>
arb (.val f_8 h11) call fun v_12 h13 =>
arb (.call F_precentorlaw9_parents [v_10, v_12] h13) call fun v_14 h15 =>
arb (.val v_14 h15) call fun p_16 h17 =>
arb (.call F_precentorlaw9_known [] h17) call fun v_18 h19 =>
arb (.val v_18 h19) call fun v_20 h21 =>
gd (wantB v_20 true) (fun c => arb (.val p_16 h21) call c) h21 fun v_22 h23 =>
gd (wantB v_20 true) (fun c => arb (.call F_tree_Right [v_22] h23) call c) h23 fun v_24 h25 =>
gd (wantB v_20 true) (fun c => arb (.val p_16 h25) call c) h25 fun v_26 h27 =>
gd (wantB v_20 true) (fun c => arb (.call F_precentorref9_RightTree [v_26] h27) call c) h27 fun v_28 h29 =>
gd (wantB v_20 true) (fun c => arb (.of (aBin P .eql 4 (.tmp 27) (.tmp 29) v_24 v_28) h29) call c) h29 fun v_30 h31 =>
arb (pkR v_20 v_30 (.bool false) h31) call fun v_32 h33 =>
arb (.val v_32 h33) call fun ok_34 h35 =>
arb (.val f_8 h35) call fun v_36 h37 =>
arb (.val p_16 h37) call fun v_38 h39 =>
arb (.of (lenL v_38) h39) call fun v_40 h41 =>
arb (.of (aBin P .add 3 (.tmp 34) (.const (.int .i64 1)) v_40 (.int .i64 1)) h41) call fun v_42 h43 =>
arb (.call F_precentorhand_Feed_Next [v_36, v_42] h43) call fun v_44 h45 =>
arb (.val f_8 h45) call fun v_46 h47 =>
arb (.val p_16 h47) call fun v_48 h49 =>
arb (.of (lenL v_48) h49) call fun v_50 h51 =>
arb (.of (aBin P .add 3 (.tmp 39) (.const (.int .i64 2)) v_50 (.int .i64 2)) h51) call fun v_52 h53 =>
arb (.call F_precentorhand_Feed_Next [v_46, v_52] h53) call fun v_54 h55 =>
arb (.of (aBin P .sub 3 (.tmp 41) (.const (.int .i64 1)) v_54 (.int .i64 1)) h55) call fun v_56 h57 =>
arb (.val odd_a2 h57) call fun v_58 h59 =>
arb (.of (bldR [(.int .i64 0), (.int .i64 0), (.int .i64 0)] [(0, 1, v_44), (1, 1, v_56), (2, 1, v_58)]) h59) call fun v_60 h61 =>
arb (newR [(.int .i64 0), (.int .i64 0), (.int .i64 0)] h61) call fun ends_62 h63 =>
arb (stR 3 h63 ends_62 v_60) call fun v_64 h65 =>
lt (sqK (J_precentorlaw9_TreeTells_0 P call fuel k) k) fun k160 =>
arb (.val (.int .i64 0) h65) call fun i_161 h162 =>
lt (blkK 0 k160) fun k163 =>
(loopN (L_precentorlaw9_TreeTells_6 P call fuel) fuel (upd (upd (upd (upd (upd (upd (upd (upd (upd (upd (upd (upd (upd (upd (upd (upd (upd (upd (upd (upd (upd (upd (upd (upd (upd (upd (upd (upd (upd (upd (upd (upd (upd (enterT [raw_a0, l_a1, odd_a2, many_a3]) 8 v_0) 18 v_2) 19 v_4) 20 v_6) 9 f_8) 21 v_10) 22 v_12) 23 v_14) 10 p_16) 24 v_18) 25 v_20) 26 v_22) 27 v_24) 28 v_26) 29 v_28) 30 v_30) 31 v_32) 11 ok_34) 32 v_36) 33 v_38) 34 v_40) 35 v_42) 36 v_44) 37 v_46) 38 v_48) 39 v_50) 40 v_52) 41 v_54) 42 v_56) 43 v_58) 44 v_60) 12 ends_62) 13 i_161) h162).bind (lpK k163)
theorem E_precentorlaw9_TreeTells (call : FuncId → List AVal → Heap → Res AVal) (fuel : Nat) (raw_a0 l_a1 odd_a2 many_a3 : AVal) (h : Heap) : bodyR Try.prog call fuel Try.f3 [raw_a0, l_a1, odd_a2, many_a3] h = S_precentorlaw9_TreeTells Try.prog call fuel raw_a0 l_a1 odd_a2 many_a3 h := by kernel_rfl
theorem R_precentorlaw9_TreeTells {X : XTab} (raw_a0 l_a1 odd_a2 many_a3 : AVal) {h : Heap} {Q : AVal → Heap → Prop} (hx : X F_precentorlaw9_TreeTells [raw_a0, l_a1, odd_a2, many_a3] = none) (q : Tells (fun m => S_precentorlaw9_TreeTells Try.prog (acallX Try.prog X m) m raw_a0 l_a1 odd_a2 many_a3 h) Q) :
    Tells (fun m => acallX Try.prog X m F_precentorlaw9_TreeTells [raw_a0, l_a1, odd_a2, many_a3] h) Q :=
  Tells.later (q.le fun m => (E_precentorlaw9_TreeTells (acallX Try.prog X m) m raw_a0 l_a1 odd_a2 many_a3 h) ▸ acallX_le Try.func3 hx m h)

/-! ### precentor/precentorlaw9.TreeWays -/
def J_precentorlaw9_TreeWays_2 (P : Program) (call : FuncId → List AVal → Heap → Res AVal) (fuel : Nat) (k : Kn (AVal)) (t : T) (h : Heap) : Res (AVal) :=
arb (.val (t 10) h) call fun v_60 h61 =>
arb (.val (t 2) h61) call fun v_62 h63 =>
arb (.of (aBin P .eql 3 (.tmp 131) (.tmp 132) v_60 v_62) h63) call fun v_64 h65 =>
arb (.val v_64 h65) call fun v_66 h67 =>
gd (wantB v_66 true) (fun c => arb (.val (t 8) h67) call c) h67 fun v_68 h69 =>
gd (wantB v_66 true) (fun c => arb (.val (t 2) h69) call c) h69 fun v_70 h71 =>
gd (wantB v_66 true) (fun c => arb (.val (t 2) h71) call c) h71 fun v_72 h73 =>
gd (wantB v_66 true) (fun c => arb (.call F_tree_Next [v_68, v_70, v_72] h73) call c) h73 fun v_74 h75 =>
gd (wantB v_66 true) (fun c => arb (.of (aBin P .eql 3 (.tmp 138) (.const (.int .i64 (-1))) v_74 (.int .i64 (-1))) h75) call c) h75 fun v_76 h77 =>
arb (pkR v_66 v_76 (.bool false) h77) call fun v_78 h79 =>
arb (.val v_78 h79) call fun v_80 h81 =>
k .ret (upd (upd (upd (upd (upd (upd (upd (upd (upd (upd (upd t 131 v_60) 132 v_62) 133 v_64) 134 v_66) 135 v_68) 136 v_70) 137 v_72) 138 v_74) 139 v_76) 140 v_78) 6 v_80) h81

def J_precentorlaw9_TreeWays_5 (P : Program) (call : FuncId → List AVal → Heap → Res AVal) (fuel : Nat) (k : Kn (Ex × T)) (t : T) (h : Heap) : Res (Ex × T) :=
arb (.val (t 17) h) call fun v_88 h89 =>
arb (.of (aBin P .sub 3 (.tmp 116) (.const (.int .i64 1)) v_88 (.int .i64 1)) h89) call fun v_90 h91 =>
arb (.val v_90 h91) call fun i_92 h93 =>
k .normal (upd (upd (upd t 116 v_88) 117 v_90) 17 i_92) h93

def J_precentorlaw9_TreeWays_4 (P : Program) (call : FuncId → List AVal → Heap → Res AVal) (fuel : Nat) (k : Kn (Ex × T)) (t : T) (h : Heap) : Res (Ex × T) :=
lt (sqK (J_precentorlaw9_TreeWays_5 P call fuel k) k) fun k94 =>
lt (blkK 5 k94) fun k95 =>
obv (.val (t 8) h) fun v_96 =>
obv (.val (t 11) h) fun v_98 =>
obv (.val (t 17) h) fun v_100 =>
obv (.of (ixsR 1 v_98 v_100) h) fun v_102 =>
obv (.of (ld1 h v_102) h) fun v_104 => ifb true <|
obv (.val (t 1) h) fun v_106 =>
arbE (.call F_tree_Next [v_96, v_104, v_106] h) call fun v_108 h109 => lt h109 fun g109 => ifb (true && true) <|
obv (.val (t 11) g109) fun v_110 =>
obv (.val (t 17) g109) fun v_112 =>
obv (.of (aBin P .sub 3 (.tmp 126) (.const (.int .i64 1)) v_112 (.int .i64 1)) g109) fun v_114 =>
obv (.of (ixsR 1 v_110 v_114) g109) fun v_116 =>
obv (.of (ld1 g109 v_116) g109) fun v_118 => ifb (isV v_118 (arVal (.of (ld1 h v_116) h)) && true) <|
obv (.of (aBin P .neq 3 (.tmp 124) (.tmp 129) v_108 v_118) g109) fun v_120 =>
cb v_120 (
arb (.val (.bool false) g109) call fun v_122 h123 =>
k95 .ret (upd (upd (upd (upd (upd (upd (upd (upd (upd (upd (upd (upd (upd (upd t 118 v_96) 119 v_98) 120 v_100) 121 v_102) 122 v_104) 123 v_106) 124 v_108) 125 v_110) 126 v_112) 127 v_114) 128 v_116) 129 v_118) 130 v_120) 6 v_122) h123) (
k95 .normal (upd (upd (upd (upd (upd (upd (upd (upd (upd (upd (upd (upd (upd t 118 v_96) 119 v_98) 120 v_100) 121 v_102) 122 v_104) 123 v_106) 124 v_108) 125 v_110) 126 v_112) 127 v_114) 128 v_116) 129 v_118) 130 v_120) g109)

def L_precentorlaw9_TreeWays_3 (P : Program) (call : FuncId → List AVal → Heap → Res AVal) (fuel : Nat) (t : T) (h : Heap) : Res (Ex × T) :=
lt okK fun k =>
lt (sqK (J_precentorlaw9_TreeWays_4 P call fuel k) k) fun k124 =>
arb (.val (t 17) h) call fun v_125 h126 =>
arb (.of (aBin P .gtr 3 (.tmp 114) (.const (.int .i64 0)) v_125 (.int .i64 0)) h126) call fun v_127 h128 =>
cb v_127 (
k124 .normal (upd (upd t 114 v_125) 115 v_127) h128) (
k124 (.exit 4) (upd (upd t 114 v_125) 115 v_127) h128)

def J_precentorlaw9_TreeWays_1 (P : Program) (call : FuncId → List AVal → Heap → Res AVal) (fuel : Nat) (k : Kn (AVal)) (t : T) (h : Heap) : Res (AVal) :=
lt (sqK (J_precentorlaw9_TreeWays_2 P call fuel k) k) fun k82 =>
arb (.val (t 9) h) call fun v_83 h84 =>
arb (.val v_83 h84) call fun i_85 h86 =>
lt (blkK 4 k82) fun k87 =>
(loopN (L_precentorlaw9_TreeWays_3 P call fuel) fuel (upd (upd t 113 v_83) 17 i_85) h86).bind (lpK k87)

def J_precentorlaw9_TreeWays_8 (P : Program) (call : FuncId → List AVal → Heap → Res AVal) (fuel : Nat) (k : Kn (Ex × T)) (t : T) (h : Heap) : Res (Ex × T) :=
arb (.val (t 12) h) call fun v_133 h134 =>
arb (.of (aBin P .add 3 (.tmp 71) (.const (.int .i64 1)) v_133 (.int .i64 1)) h134) call fun v_135 h136 =>
arb (.val v_135 h136) call fun i_137 h138 =>
k .normal (upd (upd (upd t 71 v_133) 72 v_135) 12 i_137) h138

def J_precentorlaw9_TreeWays_10 (P : Program) (call : FuncId → List AVal → Heap → Res AVal) (fuel : Nat) (k : Kn (Ex × T)) (t : T) (h : Heap) : Res (Ex × T) :=
arb (.val (t 13) h) call fun v_161 h162 =>
arb (.val v_161 h162) call fun at_163 h164 =>
arb (.val (t 11) h164) call fun v_165 h166 =>
arb (.val (t 13) h166) call fun v_167 h168 =>
arb (bslR 1 [(.int .i64 0)] 1 h168 [(0, 1, v_167)]) call fun v_169 h170 =>
arb (appR 1 8 h170 v_165 v_169) call fun v_171 h172 =>
arb (.val v_171 h172) call fun way_173 h174 =>
k .normal (upd (upd (upd (upd (upd (upd (upd t 108 v_161) 10 at_163) 109 v_165) 110 v_167) 111 v_169) 112 v_171) 11 way_173) h174

def J_precentorlaw9_TreeWays_9 (P : Program) (call : FuncId → List AVal → Heap → Res AVal) (fuel : Nat) (k : Kn (Ex × T)) (t : T) (h : Heap) : Res (Ex × T) :=
lt (sqK (J_precentorlaw9_TreeWays_10 P call fuel k) k) fun k175 =>
arb (.val (t 15) h) call fun v_176 h177 =>
arb (.of (aUn P .not v_176) h177) call fun v_178 h179 =>
arb (.val v_178 h179) call fun v_180 h181 =>
gd (wantB v_180 false) (fun c => arb (.val (t 8) h181) call c) h181 fun v_182 h183 =>
gd (wantB v_180 false) (fun c => arb (.val (t 13) h183) call c) h183 fun v_184 h185 =>
gd (wantB v_180 false) (fun c => arb (.val (t 2) h185) call c) h185 fun v_186 h187 =>
gd (wantB v_180 false) (fun c => arb (.call F_tree_Dist [v_182, v_184, v_186] h187) call c) h187 fun v_188 h189 =>
gd (wantB v_180 false) (fun c => arb (.val (t 9) h189) call c) h189 fun v_190 h191 =>
gd (wantB v_180 false) (fun c => arb (.val (t 12) h191) call c) h191 fun v_192 h193 =>
gd (wantB v_180 false) (fun c => arb (.of (aBin P .sub 3 (.tmp 102) (.tmp 103) v_190 v_192) h193) call c) h193 fun v_194 h195 =>
gd (wantB v_180 false) (fun c => arb (.of (aBin P .sub 3 (.tmp 104) (.const (.int .i64 1)) v_194 (.int .i64 1)) h195) call c) h195 fun v_196 h197 =>
gd (wantB v_180 false) (fun c => arb (.of (aBin P .neq 3 (.tmp 101) (.tmp 105) v_188 v_196) h197) call c) h197 fun v_198 h199 =>
arb (pkR v_180 (.bool true) v_198 h199) call fun v_200 h201 =>
cb v_200 (
arb (.val (.bool false) h201) call fun v_202 h203 =>
k175 .ret (upd (upd (upd (upd (upd (upd (upd (upd (upd (upd (upd (upd (upd (upd t 95 v_176) 96 v_178) 97 v_180) 98 v_182) 99 v_184) 100 v_186) 101 v_188) 102 v_190) 103 v_192) 104 v_194) 105 v_196) 106 v_198) 107 v_200) 6 v_202) h203) (
k175 .normal (upd (upd (upd (upd (upd (upd (upd (upd (upd (upd (upd (upd (upd t 95 v_176) 96 v_178) 97 v_180) 98 v_182) 99 v_184) 100 v_186) 101 v_188) 102 v_190) 103 v_192) 104 v_194) 105 v_196) 106 v_198) 107 v_200) h201)

def J_precentorlaw9_TreeWays_13 (P : Program) (call : FuncId → List AVal → Heap → Res AVal) (fuel : Nat) (k : Kn (Ex × T)) (t : T) (h : Heap) : Res (Ex × T) :=
arb (.val (t 16) h) call fun v_208 h209 =>
arb (.of (aBin P .add 3 (.tmp 84) (.const (.int .i64 1)) v_208 (.int .i64 1)) h209) call fun v_210 h211 =>
arb (.val v_210 h211) call fun k_212 h213 =>
k .normal (upd (upd (upd t 84 v_208) 85 v_210) 16 k_212) h213

def J_precentorlaw9_TreeWays_12 (P : Program) (call : FuncId → List AVal → Heap → Res AVal) (fuel : Nat) (k : Kn (Ex × T)) (t : T) (h : Heap) : Res (Ex × T) :=
lt (sqK (J_precentorlaw9_TreeWays_13 P call fuel k) k) fun k214 =>
lt (blkK 3 k214) fun k215 =>
arb (.val (t 15) h) call fun v_216 h217 =>
arb (.val v_216 h217) call fun v_218 h219 =>
gd (wantB v_218 false) (fun c => arb (.val (t 14) h219) call c) h219 fun v_220 h221 =>
gd (wantB v_218 false) (fun c => arb (.val (t 16) h221) call c) h221 fun v_222 h223 =>
gd (wantB v_218 false) (fun c => arb (.of (ixsR 1 v_220 v_222) h223) call c) h223 fun v_224 h225 =>
gd (wantB v_218 false) (fun c => arb (.of (ld1 h225 v_224) h225) call c) h225 fun v_226 h227 =>
gd (wantB v_218 false) (fun c => arb (.val (t 13) h227) call c) h227 fun v_228 h229 =>
gd (wantB v_218 false) (fun c => arb (.of (aBin P .eql 3 (.tmp 91) (.tmp 92) v_226 v_228) h229) call c) h229 fun v_230 h231 =>
arb (pkR v_218 (.bool true) v_230 h231) call fun v_232 h233 =>
arb (.val v_232 h233) call fun found_234 h235 =>
k215 .normal (upd (upd (upd (upd (upd (upd (upd (upd (upd (upd t 86 v_216) 87 v_218) 88 v_220) 89 v_222) 90 v_224) 91 v_226) 92 v_228) 93 v_230) 94 v_232) 15 found_234) h235

def L_precentorlaw9_TreeWays_11 (P : Program) (call : FuncId → List AVal → Heap → Res AVal) (fuel : Nat) (t : T) (h : Heap) : Res (Ex × T) :=
lt okK fun k =>
lt (sqK (J_precentorlaw9_TreeWays_12 P call fuel k) k) fun k236 =>
arb (.val (t 16) h) call fun v_237 h238 =>
arb (.val (t 14) h238) call fun v_239 h240 =>
arb (.of (lenL v_239) h240) call fun v_241 h242 =>
arb (.of (aBin P .lss 3 (.tmp 80) (.tmp 82) v_237 v_241) h242) call fun v_243 h244 =>
cb v_243 (
k236 .normal (upd (upd (upd (upd t 80 v_237) 81 v_239) 82 v_241) 83 v_243) h244) (
k236 (.exit 2) (upd (upd (upd (upd t 80 v_237) 81 v_239) 82 v_241) 83 v_243) h244)

def J_precentorlaw9_TreeWays_7 (P : Program) (call : FuncId → List AVal → Heap → Res AVal) (fuel : Nat) (k : Kn (Ex × T)) (t : T) (h : Heap) : Res (Ex × T) :=
lt (sqK (J_precentorlaw9_TreeWays_8 P call fuel k) k) fun k139 =>
lt (blkK 1 k139) fun k140 =>
arb (.val (t 8) h) call fun v_141 h142 =>
arb (.val (t 10) h142) call fun v_143 h144 =>
arb (.val (t 2) h144) call fun v_145 h146 =>
arb (.call F_tree_Next [v_141, v_143, v_145] h146) call fun v_147 h148 =>
arb (.val v_147 h148) call fun n_149 h150 =>
arb (.val (t 8) h150) call fun v_151 h152 =>
arb (.val (t 10) h152) call fun v_153 h154 =>
arb (.call F_tree_Near [v_151, v_153] h154) call fun v_155 h156 =>
arb (.val v_155 h156) call fun near_157 h158 =>
arb (.val (.bool false) h158) call fun found_159 h160 =>
lt (sqK (J_precentorlaw9_TreeWays_9 P call fuel k140) k140) fun k204 =>
arb (.val (.int .i64 0) h160) call fun k_205 h206 =>
lt (blkK 2 k204) fun k207 =>
(loopN (L_precentorlaw9_TreeWays_11 P call fuel) fuel (upd (upd (upd (upd (upd (upd (upd (upd (upd (upd (upd t 73 v_141) 74 v_143) 75 v_145) 76 v_147) 13 n_149) 77 v_151) 78 v_153) 79 v_155) 14 near_157) 15 found_159) 16 k_205) h206).bind (lpK k207)

def L_precentorlaw9_TreeWays_6 (P : Program) (call : FuncId → List AVal → Heap → Res AVal) (fuel : Nat) (t : T) (h : Heap) : Res (Ex × T) :=
lt okK fun k =>
lt (sqK (J_precentorlaw9_TreeWays_7 P call fuel k) k) fun k245 =>
arb (.val (t 12) h) call fun v_246 h247 =>
arb (.val (t 9) h247) call fun v_248 h249 =>
arb (.of (aBin P .lss 3 (.tmp 68) (.tmp 69) v_246 v_248) h249) call fun v_250 h251 =>
cb v_250 (
k245 .normal (upd (upd (upd t 68 v_246) 69 v_248) 70 v_250) h251) (
k245 (.exit 0) (upd (upd (upd t 68 v_246) 69 v_248) 70 v_250) h251)

def J_precentorlaw9_TreeWays_0 (P : Program) (call : FuncId → List AVal → Heap → Res AVal) (fuel : Nat) (k : Kn (AVal)) (t : T) (h : Heap) : Res (AVal) :=
arb (.val (t 1) h) call fun v_50 h51 =>
arb (.val v_50 h51) call fun at_52 h53 =>
arb (.val (t 1) h53) call fun v_54 h55 =>
arb (bslR 1 [(.int .i64 0)] 1 h55 [(0, 1, v_54)]) call fun v_56 h57 =>
arb (.val v_56 h57) call fun way_58 h59 =>
lt (sqK (J_precentorlaw9_TreeWays_1 P call fuel k) k) fun k129 =>
arb (.val (.int .i64 0) h59) call fun i_130 h131 =>
lt (blkK 0 k129) fun k132 =>
(loopN (L_precentorlaw9_TreeWays_6 P call fuel) fuel (upd (upd (upd (upd (upd (upd t 65 v_50) 10 at_52) 66 v_54) 67 v_56) 11 way_58) 12 i_130) h131).bind (lpK k132)

def S_precentorlaw9_TreeWays (P : Program) (call : FuncId → List AVal → Heap → Res AVal) (fuel : Nat) (l_a0 a_a1 b_a2 : AVal) (h : Heap) : Res AVal :=
lt (retK P [.tmp 6]) fun k =>
arb (.val (.bool false) h) call fun v_0 h1 =>
arb (.val l_a0 h1) call fun v_2 h3 =>
arb (.of (bldR [.nils, (.int .i64 0)] [(0, 1, v_2)]) h3) call fun v_4 h5 =>
arb (boxR v_4 h5) call fun v_6 h7 =>
arb (.val v_6 h7) call fun f_8 h9 =>
arb (.val f_8 h9) call fun v_10 h11 =>
arb (.call F_precentorhand_Feed_Tree [v_10, (.int .i64 8)] h11) call fun v_12 h13 =>
arb (.val v_12 h13) call fun p_14 h15 =>
arb (.val a_a1 h15) call fun v_16 h17 =>
arb (.val p_14 h17) call fun v_18 h19 =>
arb (.of (lenL v_18) h19) call fun v_20 h21 =>
arb (.of (aBin P .add 3 (.tmp 25) (.const (.int .i64 1)) v_20 (.int .i64 1)) h21) call fun v_22 h23 =>
arb (.call F_precentorhand_Pick [v_16, v_22] h23) call fun v_24 h25 =>
arb (.val b_a2 h25) call fun v_26 h27 =>
arb (.val p_14 h27) call fun v_28 h29 =>
arb (.of (lenL v_28) h29) call fun v_30 h31 =>
arb (.of (aBin P .add 3 (.tmp 30) (.const (.int .i64 1)) v_30 (.int .i64 1)) h31) call fun v_32 h33 =>
arb (.call F_precentorhand_Pick [v_26, v_32] h33) call fun v_34 h35 =>
arb (.val v_24 h35) call fun a_36 h37 =>
arb (.val v_34 h37) call fun b_38 h39 =>
arb (.val p_14 h39) call fun v_40 h41 =>
arb (.val a_36 h41) call fun v_42 h43 =>
arb (.val b_38 h43) call fun v_44 h45 =>
arb (.call F_tree_Dist [v_40, v_42, v_44] h45) call fun v_46 h47 =>
arb (.val v_46 h47) call fun d_48 h49 =>
lt (sqK (J_precentorlaw9_TreeWays_0 P call fuel k) k) fun k252 =>
arb (.call F_precentorlaw9_known [] h49) call fun v_253 h254 =>
arb (.of (aUn P .not v_253) h254) call fun v_255 h256 =>
arb (.val v_255 h256) call fun v_257 h258 =>
gd (wantB v_257 false) (fun c => arb (.val d_48 h258) call c) h258 fun v_259 h260 =>
gd (wantB v_257 false) (fun c => arb (.of (aBin P .lss 3 (.tmp 40) (.const (.int .i64 0)) v_259 (.int .i64 0)) h260) call c) h260 fun v_261 h262 =>
arb (pkR v_257 (.bool true) v_261 h262) call fun v_263 h264 =>
arb (.val v_263 h264) call fun v_265 h266 =>
gd (wantB v_265 false) (fun c => arb (.val d_48 h266) call c) h266 fun v_267 h268 =>
gd (wantB v_265 false) (fun c => arb (.val p_14 h268) call c) h268 fun v_269 h270 =>
gd (wantB v_265 false) (fun c => arb (.of (lenL v_269) h270) call c) h270 fun v_271 h272 =>
gd (wantB v_265 false) (fun c => arb (.of (aBin P .gtr 3 (.tmp 44) (.tmp 46) v_267 v_271) h272) call c) h272 fun v_273 h274 =>
arb (pkR v_265 (.bool true) v_273 h274) call fun v_275 h276 =>
arb (.val v_275 h276) call fun v_277 h278 =>
gd (wantB v_277 false) (fun c => arb (.val d_48 h278) call c) h278 fun v_279 h280 =>
gd (wantB v_277 false) (fun c => arb (.val p_14 h280) call c) h280 fun v_281 h282 =>
gd (wantB v_277 false) (fun c => arb (.val b_38 h282) call c) h282 fun v_283 h284 =>
gd (wantB v_277 false) (fun c => arb (.val a_36 h284) call c) h284 fun v_285 h286 =>
gd (wantB v_277 false) (fun c => arb (.call F_tree_Dist [v_281, v_283, v_285] h286) call c) h286 fun v_287 h288 =>
gd (wantB v_277 false) (fun c => arb (.of (aBin P .neq 3 (.tmp 50) (.tmp 54) v_279 v_287) h288) call c) h288 fun v_289 h290 =>
arb (pkR v_277 (.bool true) v_289 h290) call fun v_291 h292 =>
arb (.val v_291 h292) call fun v_293 h294 =>
gd (wantB v_293 false) (fun c => arb (.val d_48 h294) call c) h294 fun v_295 h296 =>
gd (wantB v_293 false) (fun c => arb (.of (aBin P .eql 3 (.tmp 58) (.const (.int .i64 0)) v_295 (.int .i64 0)) h296) call c) h296 fun v_297 h298 =>
gd (wantB v_293 false) (fun c => arb (.val a_36 h298) call c) h298 fun v_299 h300 =>
gd (wantB v_293 false) (fun c => arb (.val b_38 h300) call c) h300 fun v_301 h302 =>
gd (wantB v_293 false) (fun c => arb (.of (aBin P .eql 3 (.tmp 60) (.tmp 61) v_299 v_301) h302) call c) h302 fun v_303 h304 =>
gd (wantB v_293 false) (fun c => arb (.of (aBin P .neq 4 (.tmp 59) (.tmp 62) v_297 v_303) h304) call c) h304 fun v_305 h306 =>
arb (pkR v_293 (.bool true) v_305 h306) call fun v_307 h308 =>
cb v_307 (
arb (.val (.bool false) h308) call fun v_309 h310 =>
k252 .ret (upd (upd (upd (upd (upd (upd (upd (upd (upd (upd (upd (upd (upd (upd (upd (upd (upd (upd (upd (upd (upd (upd (upd (upd (upd (upd (upd (upd (upd (upd (upd (upd (upd (upd (upd (upd (upd (upd (upd (upd (upd (upd (upd (upd (upd (upd (upd (upd (upd (upd (upd (upd (upd (upd (enterT [l_a0, a_a1, b_a2]) 6 v_0) 18 v_2) 19 v_4) 20 v_6) 7 f_8) 21 v_10) 22 v_12) 8 p_14) 23 v_16) 24 v_18) 25 v_20) 26 v_22) 27 v_24) 28 v_26) 29 v_28) 30 v_30) 31 v_32) 32 v_34) 1 a_36) 2 b_38) 33 v_40) 34 v_42) 35 v_44) 36 v_46) 9 d_48) 37 v_253) 38 v_255) 39 v_257) 40 v_259) 41 v_261) 42 v_263) 43 v_265) 44 v_267) 45 v_269) 46 v_271) 47 v_273) 48 v_275) 49 v_277) 50 v_279) 51 v_281) 52 v_283) 53 v_285) 54 v_287) 55 v_289) 56 v_291) 57 v_293) 58 v_295) 59 v_297) 60 v_299) 61 v_301) 62 v_303) 63 v_305) 64 v_307) 6 v_309) h310) (
k252 .normal (upd (upd (upd (upd (upd (upd (upd (upd (upd (upd (upd (upd (upd (upd (upd (upd (upd (upd (upd (upd (upd (upd (upd (upd (upd (upd (upd (upd (upd (upd (upd (upd (upd (upd (upd (upd (upd (upd (upd (upd (upd (upd (upd (upd (upd (upd (upd (upd (upd (upd (upd (upd (upd (enterT [l_a0, a_a1, b_a2]) 6 v_0) 18 v_2) 19 v_4) 20 v_6) 7 f_8) 21 v_10) 22 v_12) 8 p_14) 23 v_16) 24 v_18) 25 v_20) 26 v_22) 27 v_24) 28 v_26) 29 v_28) 30 v_30) 31 v_32) 32 v_34) 1 a_36) 2 b_38) 33 v_40) 34 v_42) 35 v_44) 36 v_46) 9 d_48) 37 v_253) 38 v_255) 39 v_257) 40 v_259) 41 v_261) 42 v_263) 43 v_265) 44 v_267) 45 v_269) 46 v_271) 47 v_273) 48 v_275) 49 v_277) 50 v_279) 51 v_281) 52 v_283) 53 v_285) 54 v_287) 55 v_289) 56 v_291) 57 v_293) 58 v_295) 59 v_297) 60 v_299) 61 v_301) 62 v_303) 63 v_305) 64 v_307) h308)
theorem E_precentorlaw9_TreeWays (call : FuncId → List AVal → Heap → Res AVal) (fuel : Nat) (l_a0 a_a1 b_a2 : AVal) (h : Heap) : bodyR Try.prog call fuel Try.f4 [l_a0, a_a1, b_a2] h = S_precentorlaw9_TreeWays Try.prog call fuel l_a0 a_a1 b_a2 h := by kernel_rfl
theorem R_precentorlaw9_TreeWays {X : XTab} (l_a0 a_a1 b_a2 : AVal) {h : Heap} {Q : AVal → Heap → Prop} (hx : X F_precentorlaw9_TreeWays [l_a0, a_a1, b_a2] = none) (q : Tells (fun m => S_precentorlaw9_TreeWays Try.prog (acallX Try.prog X m) m l_a0 a_a1 b_a2 h) Q) :
    Tells (fun m => acallX Try.prog X m F_precentorlaw9_TreeWays [l_a0, a_a1, b_a2] h) Q :=
  Tells.later (q.le fun m => (E_precentorlaw9_TreeWays (acallX Try.prog X m) m l_a0 a_a1 b_a2 h) ▸ acallX_le Try.func4 hx m h)

/-! ### precentor/precentorlaw9.TreeSides -/
def J_precentorlaw9_TreeSides_3 (P : Program) (call : FuncId → List AVal → Heap → Res AVal) (fuel : Nat) (k : Kn (AVal)) (t : T) (h : Heap) : Res (AVal) :=
arb (.call F_precentorlaw9_known [] h) call fun v_56 h57 =>
arb (.val v_56 h57) call fun v_58 h59 =>
gd (wantB v_58 true) (fun c => arb (.val (t 8) h59) call c) h59 fun v_60 h61 =>
gd (wantB v_58 true) (fun c => arb (.of (lenL v_60) h61) call c) h61 fun v_62 h63 =>
gd (wantB v_58 true) (fun c => arb (.val (t 13) h63) call c) h63 fun v_64 h65 =>
gd (wantB v_58 true) (fun c => arb (.of (lenL v_64) h65) call c) h65 fun v_66 h67 =>
gd (wantB v_58 true) (fun c => arb (.val (t 15) h67) call c) h67 fun v_68 h69 =>
gd (wantB v_58 true) (fun c => arb (.of (aBin P .add 3 (.tmp 156) (.tmp 157) v_66 v_68) h69) call c) h69 fun v_70 h71 =>
gd (wantB v_58 true) (fun c => arb (.of (aBin P .eql 3 (.tmp 154) (.tmp 158) v_62 v_70) h71) call c) h71 fun v_72 h73 =>
arb (pkR v_58 v_72 (.bool false) h73) call fun v_74 h75 =>
arb (.val v_74 h75) call fun v_76 h77 =>
k .ret (upd (upd (upd (upd (upd (upd (upd (upd (upd (upd (upd t 151 v_56) 152 v_58) 153 v_60) 154 v_62) 155 v_64) 156 v_66) 157 v_68) 158 v_70) 159 v_72) 160 v_74) 4 v_76) h77

def J_precentorlaw9_TreeSides_2 (P : Program) (call : FuncId → List AVal → Heap → Res AVal) (fuel : Nat) (k : Kn (AVal)) (t : T) (h : Heap) : Res (AVal) :=
arb (.val (.int .i64 0) h) call fun more_54 h55 =>
lt (sqK (J_precentorlaw9_TreeSides_3 P call fuel k) k) fun k78 =>
arb (.val (t 1) h55) call fun v_79 h80 =>
arb (.of (aBin P .gtr 3 (.tmp 149) (.const (.int .i64 0)) v_79 (.int .i64 0)) h80) call fun v_81 h82 =>
cb v_81 (
arb (.val (.int .i64 1) h82) call fun more_83 h84 =>
k78 .normal (upd (upd (upd (upd t 15 more_54) 149 v_79) 150 v_81) 15 more_83) h84) (
k78 .normal (upd (upd (upd t 15 more_54) 149 v_79) 150 v_81) h82)

def J_precentorlaw9_TreeSides_6 (P : Program) (call : FuncId → List AVal → Heap → Res AVal) (fuel : Nat) (k : Kn (Ex × T)) (t : T) (h : Heap) : Res (Ex × T) :=
arb (.val (t 14) h) call fun v_89 h90 =>
arb (.of (aBin P .add 3 (.tmp 126) (.const (.int .i64 1)) v_89 (.int .i64 1)) h90) call fun v_91 h92 =>
arb (.val v_91 h92) call fun i_93 h94 =>
k .normal (upd (upd (upd t 126 v_89) 127 v_91) 14 i_93) h94

def J_precentorlaw9_TreeSides_5 (P : Program) (call : FuncId → List AVal → Heap → Res AVal) (fuel : Nat) (k : Kn (Ex × T)) (t : T) (h : Heap) : Res (Ex × T) :=
lt (sqK (J_precentorlaw9_TreeSides_6 P call fuel k) k) fun k95 =>
lt (blkK 7 k95) fun k96 =>
arb (.val (t 6) h) call fun v_97 h98 =>
arb (.val (t 13) h98) call fun v_99 h100 =>
arb (.val (t 14) h100) call fun v_101 h102 =>
arb (.of (ixsR 1 v_99 v_101) h102) call fun v_103 h104 =>
arb (.of (ld1 h104 v_103) h104) call fun v_105 h106 =>
arb (.call F_tree_Dist [v_97, (.int .i64 0), v_105] h106) call fun v_107 h108 =>
arb (.val (t 6) h108) call fun v_109 h110 =>
arb (.val (t 1) h110) call fun v_111 h112 =>
arb (.call F_tree_Dist [v_109, (.int .i64 0), v_111] h112) call fun v_113 h114 =>
arb (.of (aBin P .add 3 (.tmp 136) (.const (.int .i64 1)) v_113 (.int .i64 1)) h114) call fun v_115 h116 =>
arb (.of (aBin P .neq 3 (.tmp 133) (.tmp 137) v_107 v_115) h116) call fun v_117 h118 =>
arb (.val v_117 h118) call fun v_119 h120 =>
gd (wantB v_119 false) (fun c => arb (.val (t 6) h120) call c) h120 fun v_121 h122 =>
gd (wantB v_119 false) (fun c => arb (.val (t 13) h122) call c) h122 fun v_123 h124 =>
gd (wantB v_119 false) (fun c => arb (.val (t 14) h124) call c) h124 fun v_125 h126 =>
gd (wantB v_119 false) (fun c => arb (.of (ixsR 1 v_123 v_125) h126) call c) h126 fun v_127 h128 =>
gd (wantB v_119 false) (fun c => arb (.of (ld1 h128 v_127) h128) call c) h128 fun v_129 h130 =>
gd (wantB v_119 false) (fun c => arb (.call F_tree_Next [v_121, v_129, (.int .i64 0)] h130) call c) h130 fun v_131 h132 =>
gd (wantB v_119 false) (fun c => arb (.val (t 1) h132) call c) h132 fun v_133 h134 =>
gd (wantB v_119 false) (fun c => arb (.of (aBin P .neq 3 (.tmp 145) (.tmp 146) v_131 v_133) h134) call c) h134 fun v_135 h136 =>
arb (pkR v_119 (.bool true) v_135 h136) call fun v_137 h138 =>
cb v_137 (
arb (.val (.bool false) h138) call fun v_139 h140 =>
k96 .ret (upd (upd (upd (upd (upd (upd (upd (upd (upd (upd (upd (upd (upd (upd (upd (upd (upd (upd (upd (upd (upd (upd t 128 v_97) 129 v_99) 130 v_101) 131 v_103) 132 v_105) 133 v_107) 134 v_109) 135 v_111) 136 v_113) 137 v_115) 138 v_117) 139 v_119) 140 v_121) 141 v_123) 142 v_125) 143 v_127) 144 v_129) 145 v_131) 146 v_133) 147 v_135) 148 v_137) 4 v_139) h140) (
k96 .normal (upd (upd (upd (upd (upd (upd (upd (upd (upd (upd (upd (upd (upd (upd (upd (upd (upd (upd (upd (upd (upd t 128 v_97) 129 v_99) 130 v_101) 131 v_103) 132 v_105) 133 v_107) 134 v_109) 135 v_111) 136 v_113) 137 v_115) 138 v_117) 139 v_119) 140 v_121) 141 v_123) 142 v_125) 143 v_127) 144 v_129) 145 v_131) 146 v_133) 147 v_135) 148 v_137) h138)

def L_precentorlaw9_TreeSides_4 (P : Program) (call : FuncId → List AVal → Heap → Res AVal) (fuel : Nat) (t : T) (h : Heap) : Res (Ex × T) :=
lt okK fun k =>
lt (sqK (J_precentorlaw9_TreeSides_5 P call fuel k) k) fun k141 =>
arb (.val (t 14) h) call fun v_142 h143 =>
arb (.val (t 13) h143) call fun v_144 h145 =>
arb (.of (lenL v_144) h145) call fun v_146 h147 =>
arb (.of (aBin P .lss 3 (.tmp 122) (.tmp 124) v_142 v_146) h147) call fun v_148 h149 =>
cb v_148 (
k141 .normal (upd (upd (upd (upd t 122 v_142) 123 v_144) 124 v_146) 125 v_148) h149) (
k141 (.exit 6) (upd (upd (upd (upd t 122 v_142) 123 v_144) 124 v_146) 125 v_148) h149)

def J_precentorlaw9_TreeSides_1 (P : Program) (call : FuncId → List AVal → Heap → Res AVal) (fuel : Nat) (k : Kn (AVal)) (t : T) (h : Heap) : Res (AVal) :=
arb (.val (t 6) h) call fun v_46 h47 =>
arb (.val (t 1) h47) call fun v_48 h49 =>
arb (.call F_tree_Kids [v_46, v_48] h49) call fun v_50 h51 =>
arb (.val v_50 h51) call fun kids_52 h53 =>
lt (sqK (J_precentorlaw9_TreeSides_2 P call fuel k) k) fun k85 =>
arb (.val (.int .i64 0) h53) call fun i_86 h87 =>
lt (blkK 6 k85) fun k88 =>
(loopN (L_precentorlaw9_TreeSides_4 P call fuel) fuel (upd (upd (upd (upd (upd t 119 v_46) 120 v_48) 121 v_50) 13 kids_52) 14 i_86) h87).bind (lpK k88)

def J_precentorlaw9_TreeSides_9 (P : Program) (call : FuncId → List AVal → Heap → Res AVal) (fuel : Nat) (k : Kn (Ex × T)) (t : T) (h : Heap) : Res (Ex × T) :=
arb (.val (t 12) h) call fun v_154 h155 =>
arb (.of (aBin P .add 3 (.tmp 95) (.const (.int .i64 1)) v_154 (.int .i64 1)) h155) call fun v_156 h157 =>
arb (.val v_156 h157) call fun i_158 h159 =>
k .normal (upd (upd (upd t 95 v_154) 96 v_156) 12 i_158) h159

def J_precentorlaw9_TreeSides_8 (P : Program) (call : FuncId → List AVal → Heap → Res AVal) (fuel : Nat) (k : Kn (Ex × T)) (t : T) (h : Heap) : Res (Ex × T) :=
lt (sqK (J_precentorlaw9_TreeSides_9 P call fuel k) k) fun k160 =>
lt (blkK 5 k160) fun k161 =>
arb (.val (t 12) h) call fun v_162 h163 =>
arb (.val (t 1) h163) call fun v_164 h165 =>
arb (.of (aBin P .neq 3 (.tmp 97) (.tmp 98) v_162 v_164) h165) call fun v_166 h167 =>
arb (.val v_166 h167) call fun v_168 h169 =>
gd (wantB v_168 true) (fun c => arb (.val (t 7) h169) call c) h169 fun v_170 h171 =>
gd (wantB v_168 true) (fun c => arb (.val (t 12) h171) call c) h171 fun v_172 h173 =>
gd (wantB v_168 true) (fun c => arb (.of (ixsR 1 v_170 v_172) h173) call c) h173 fun v_174 h175 =>
gd (wantB v_168 true) (fun c => arb (.of (ld1 h175 v_174) h175) call c) h175 fun v_176 h177 =>
gd (wantB v_168 true) (fun c => arb (.of (aBin P .neq 3 (.tmp 104) (.const (.int .i64 1)) v_176 (.int .i64 1)) h177) call c) h177 fun v_178 h179 =>
arb (pkR v_168 v_178 (.bool false) h179) call fun v_180 h181 =>
arb (.val v_180 h181) call fun v_182 h183 =>
gd (wantB v_182 false) (fun c => arb (.val (t 12) h183) call c) h183 fun v_184 h185 =>
gd (wantB v_182 false) (fun c => arb (.val (t 1) h185) call c) h185 fun v_186 h187 =>
gd (wantB v_182 false) (fun c => arb (.of (aBin P .eql 3 (.tmp 108) (.tmp 109) v_184 v_186) h187) call c) h187 fun v_188 h189 =>
gd (wantB v_182 false) (fun c => arb (.val v_188 h189) call c) h189 fun v_190 h191 =>
gd (wantB v_190 true) (fun c => arb (.val (t 7) h191) call c) h191 fun v_192 h193 =>
gd (wantB v_190 true) (fun c => arb (.val (t 12) h193) call c) h193 fun v_194 h195 =>
gd (wantB v_190 true) (fun c => arb (.of (ixsR 1 v_192 v_194) h195) call c) h195 fun v_196 h197 =>
gd (wantB v_190 true) (fun c => arb (.of (ld1 h197 v_196) h197) call c) h197 fun v_198 h199 =>
gd (wantB v_190 true) (fun c => arb (.of (aBin P .neq 3 (.tmp 115) (.const (.int .i64 0)) v_198 (.int .i64 0)) h199) call c) h199 fun v_200 h201 =>
gd (wantB v_182 false) (fun c => arb (pkR v_190 v_200 (.bool false) h201) call c) h201 fun v_202 h203 =>
arb (pkR v_182 (.bool true) v_202 h203) call fun v_204 h205 =>
cb v_204 (
arb (.val (.bool false) h205) call fun v_206 h207 =>
k161 .ret (upd (upd (upd (upd (upd (upd (upd (upd (upd (upd (upd (upd (upd (upd (upd (upd (upd (upd (upd (upd (upd (upd (upd t 97 v_162) 98 v_164) 99 v_166) 100 v_168) 101 v_170) 102 v_172) 103 v_174) 104 v_176) 105 v_178) 106 v_180) 107 v_182) 108 v_184) 109 v_186) 110 v_188) 111 v_190) 112 v_192) 113 v_194) 114 v_196) 115 v_198) 116 v_200) 117 v_202) 118 v_204) 4 v_206) h207) (
k161 .normal (upd (upd (upd (upd (upd (upd (upd (upd (upd (upd (upd (upd (upd (upd (upd (upd (upd (upd (upd (upd (upd (upd t 97 v_162) 98 v_164) 99 v_166) 100 v_168) 101 v_170) 102 v_172) 103 v_174) 104 v_176) 105 v_178) 106 v_180) 107 v_182) 108 v_184) 109 v_186) 110 v_188) 111 v_190) 112 v_192) 113 v_194) 114 v_196) 115 v_198) 116 v_200) 117 v_202) 118 v_204) h205)

def L_precentorlaw9_TreeSides_7 (P : Program) (call : FuncId → List AVal → Heap → Res AVal) (fuel : Nat) (t : T) (h : Heap) : Res (Ex × T) :=
lt okK fun k =>
lt (sqK (J_precentorlaw9_TreeSides_8 P call fuel k) k) fun k208 =>
arb (.val (t 12) h) call fun v_209 h210 =>
arb (.val (t 6) h210) call fun v_211 h212 =>
arb (.of (lenL v_211) h212) call fun v_213 h214 =>
arb (.of (aBin P .leq 3 (.tmp 91) (.tmp 93) v_209 v_213) h214) call fun v_215 h216 =>
cb v_215 (
k208 .normal (upd (upd (upd (upd t 91 v_209) 92 v_211) 93 v_213) 94 v_215) h216) (
k208 (.exit 4) (upd (upd (upd (upd t 91 v_209) 92 v_211) 93 v_213) 94 v_215) h216)

def J_precentorlaw9_TreeSides_0 (P : Program) (call : FuncId → List AVal → Heap → Res AVal) (fuel : Nat) (k : Kn (AVal)) (t : T) (h : Heap) : Res (AVal) :=
lt (sqK (J_precentorlaw9_TreeSides_1 P call fuel k) k) fun k150 =>
arb (.val (.int .i64 0) h) call fun i_151 h152 =>
lt (blkK 4 k150) fun k153 =>
(loopN (L_precentorlaw9_TreeSides_7 P call fuel) fuel (upd t 12 i_151) h152).bind (lpK k153)

def J_precentorlaw9_TreeSides_12 (P : Program) (call : FuncId → List AVal → Heap → Res AVal) (fuel : Nat) (k : Kn (Ex × T)) (t : T) (h : Heap) : Res (Ex × T) :=
arb (.val (t 9) h) call fun v_221 h222 =>
arb (.of (aBin P .add 3 (.tmp 37) (.const (.int .i64 1)) v_221 (.int .i64 1)) h222) call fun v_223 h224 =>
arb (.val v_223 h224) call fun i_225 h226 =>
k .normal (upd (upd (upd t 37 v_221) 38 v_223) 9 i_225) h226

def J_precentorlaw9_TreeSides_15 (P : Program) (call : FuncId → List AVal → Heap → Res AVal) (fuel : Nat) (k : Kn (Ex × T)) (t : T) (h : Heap) : Res (Ex × T) :=
arb (.val (t 11) h) call fun v_248 h249 =>
arb (.of (aBin P .add 3 (.tmp 50) (.const (.int .i64 1)) v_248 (.int .i64 1)) h249) call fun v_250 h251 =>
arb (.val v_250 h251) call fun k_252 h253 =>
k .normal (upd (upd (upd t 50 v_248) 51 v_250) 11 k_252) h253

def J_precentorlaw9_TreeSides_16 (P : Program) (call : FuncId → List AVal → Heap → Res AVal) (fuel : Nat) (k : Kn (Ex × T)) (t : T) (h : Heap) : Res (Ex × T) :=
arb (.val (t 7) h) call fun v_256 h257 =>
arb (.val (t 10) h257) call fun v_258 h259 =>
arb (.val (t 11) h259) call fun v_260 h261 =>
arb (.of (ixsR 1 v_258 v_260) h261) call fun v_262 h263 =>
arb (.of (ld1 h263 v_262) h263) call fun v_264 h265 =>
arb (.of (ixsR 1 v_256 v_264) h265) call fun v_266 h267 =>
arb (.of (ld1 h267 v_266) h267) call fun v_268 h269 =>
arb (.of (aBin P .add 3 (.tmp 88) (.const (.int .i64 1)) v_268 (.int .i64 1)) h269) call fun v_270 h271 =>
arb (.of (ixsR 1 v_256 v_264) h271) call fun v_272 h273 =>
arb (stR 1 h273 v_272 v_270) call fun v_274 h275 =>
k .normal (upd (upd (upd (upd (upd (upd (upd (upd (upd t 82 v_256) 83 v_258) 84 v_260) 85 v_262) 86 v_264) 87 v_266) 88 v_268) 89 v_270) 90 v_272) h275

def J_precentorlaw9_TreeSides_14 (P : Program) (call : FuncId → List AVal → Heap → Res AVal) (fuel : Nat) (k : Kn (Ex × T)) (t : T) (h : Heap) : Res (Ex × T) :=
lt (sqK (J_precentorlaw9_TreeSides_15 P call fuel k) k) fun k254 =>
lt (blkK 3 k254) fun k255 =>
lt (sqK (J_precentorlaw9_TreeSides_16 P call fuel k255) k255) fun k276 =>
obv (.val (t 10) h) fun v_277 =>
obv (.val (t 11) h) fun v_278 =>
obv (.of (ixsR 1 v_277 v_278) h) fun v_279 =>
obv (.of (ld1 h v_279) h) fun v_280 =>
obv (.of (aBin P .lss 3 (.tmp 55) (.const (.int .i64 0)) v_280 (.int .i64 0)) h) fun v_281 =>
obv (.val v_281 h) fun v_282 =>
gd (wantB v_282 false) (fun c => obv (.val (t 10) h) fun v => c v h) h fun v_283 h284 =>
gd (wantB v_282 false) (fun c => obv (.val (t 11) h284) fun v => c v h284) h284 fun v_285 h286 =>
gd (wantB v_282 false) (fun c => obv (.of (ixsR 1 v_283 v_285) h286) fun v => c v h286) h286 fun v_287 h288 =>
gd (wantB v_282 false) (fun c => obv (.of (ld1 h288 v_287) h288) fun v => c v h288) h288 fun v_289 h290 =>
gd (wantB v_282 false) (fun c => obv (.val (t 6) h290) fun v => c v h290) h290 fun v_291 h292 =>
gd (wantB v_282 false) (fun c => obv (.of (lenL v_291) h292) fun v => c v h292) h292 fun v_293 h294 =>
gd (wantB v_282 false) (fun c => obv (.of (aBin P .gtr 3 (.tmp 61) (.tmp 63) v_289 v_293) h294) fun v => c v h294) h294 fun v_295 h296 =>
obv (pkR v_282 (.bool true) v_295 h296) fun v_297 =>
obv (.val v_297 h296) fun v_298 =>
gd (wantB v_298 false) (fun c => obv (.val (t 11) h296) fun v => c v h296) h296 fun v_299 h300 =>
gd (wantB v_298 false) (fun c => obv (.of (aBin P .gtr 3 (.tmp 67) (.const (.int .i64 0)) v_299 (.int .i64 0)) h300) fun v => c v h300) h300 fun v_301 h302 =>
gd (wantB v_298 false) (fun c => obv (.val v_301 h302) fun v => c v h302) h302 fun v_303 h304 =>
gd (wantB v_303 true) (fun c => obv (.val (t 10) h304) fun v => c v h304) h304 fun v_305 h306 =>
gd (wantB v_303 true) (fun c => obv (.val (t 11) h306) fun v => c v h306) h306 fun v_307 h308 =>
gd (wantB v_303 true) (fun c => obv (.of (aBin P .sub 3 (.tmp 71) (.const (.int .i64 1)) v_307 (.int .i64 1)) h308) fun v => c v h308) h308 fun v_309 h310 =>
gd (wantB v_303 true) (fun c => obv (.of (ixsR 1 v_305 v_309) h310) fun v => c v h310) h310 fun v_311 h312 =>
gd (wantB v_303 true) (fun c => obv (.of (ld1 h312 v_311) h312) fun v => c v h312) h312 fun v_313 h314 =>
gd (wantB v_303 true) (fun c => obv (.val (t 10) h314) fun v => c v h314) h314 fun v_315 h316 =>
gd (wantB v_303 true) (fun c => obv (.val (t 11) h316) fun v => c v h316) h316 fun v_317 h318 =>
gd (wantB v_303 true) (fun c => obv (.of (ixsR 1 v_315 v_317) h318) fun v => c v h318) h318 fun v_319 h320 =>
gd (wantB v_303 true) (fun c => obv (.of (ld1 h320 v_319) h320) fun v => c v h320) h320 fun v_321 h322 =>
gd (wantB v_303 true) (fun c => obv (.of (aBin P .geq 3 (.tmp 74) (.tmp 78) v_313 v_321) h322) fun v => c v h322) h322 fun v_323 h324 =>
gd (wantB v_298 false) (fun c => obv (pkR v_303 v_323 (.bool false) h324) fun v => c v h324) h324 fun v_325 h326 =>
obv (pkR v_298 (.bool true) v_325 h326) fun v_327 =>
cb v_327 (
arb (.val (.bool false) h326) call fun v_328 h329 =>
k276 .ret (upd (upd (upd (upd (upd (upd (upd (upd (upd (upd (upd (upd (upd (upd (upd (upd (upd (upd (upd (upd (upd (upd (upd (upd (upd (upd (upd (upd (upd (upd (upd t 52 v_277) 53 v_278) 54 v_279) 55 v_280) 56 v_281) 57 v_282) 58 v_283) 59 v_285) 60 v_287) 61 v_289) 62 v_291) 63 v_293) 64 v_295) 65 v_297) 66 v_298) 67 v_299) 68 v_301) 69 v_303) 70 v_305) 71 v_307) 72 v_309) 73 v_311) 74 v_313) 75 v_315) 76 v_317) 77 v_319) 78 v_321) 79 v_323) 80 v_325) 81 v_327) 4 v_328) h329) (
k276 .normal (upd (upd (upd (upd (upd (upd (upd (upd (upd (upd (upd (upd (upd (upd (upd (upd (upd (upd (upd (upd (upd (upd (upd (upd (upd (upd (upd (upd (upd (upd t 52 v_277) 53 v_278) 54 v_279) 55 v_280) 56 v_281) 57 v_282) 58 v_283) 59 v_285) 60 v_287) 61 v_289) 62 v_291) 63 v_293) 64 v_295) 65 v_297) 66 v_298) 67 v_299) 68 v_301) 69 v_303) 70 v_305) 71 v_307) 72 v_309) 73 v_311) 74 v_313) 75 v_315) 76 v_317) 77 v_319) 78 v_321) 79 v_323) 80 v_325) 81 v_327) h326)

def L_precentorlaw9_TreeSides_13 (P : Program) (call : FuncId → List AVal → Heap → Res AVal) (fuel : Nat) (t : T) (h : Heap) : Res (Ex × T) :=
lt okK fun k =>
lt (sqK (J_precentorlaw9_TreeSides_14 P call fuel k) k) fun k330 =>
arb (.val (t 11) h) call fun v_331 h332 =>
arb (.val (t 10) h332) call fun v_333 h334 =>
arb (.of (lenL v_333) h334) call fun v_335 h336 =>
arb (.of (aBin P .lss 3 (.tmp 46) (.tmp 48) v_331 v_335) h336) call fun v_337 h338 =>
cb v_337 (
k330 .normal (upd (upd (upd (upd t 46 v_331) 47 v_333) 48 v_335) 49 v_337) h338) (
k330 (.exit 2) (upd (upd (upd (upd t 46 v_331) 47 v_333) 48 v_335) 49 v_337) h338)

def J_precentorlaw9_TreeSides_11 (P : Program) (call : FuncId → List AVal → Heap → Res AVal) (fuel : Nat) (k : Kn (Ex × T)) (t : T) (h : Heap) : Res (Ex × T) :=
lt (sqK (J_precentorlaw9_TreeSides_12 P call fuel k) k) fun k227 =>
lt (blkK 1 k227) fun k228 =>
arb (.val (t 6) h) call fun v_229 h230 =>
arb (.val (t 1) h230) call fun v_231 h232 =>
arb (.val (t 8) h232) call fun v_233 h234 =>
arb (.val (t 9) h234) call fun v_235 h236 =>
arb (.of (ixsR 1 v_233 v_235) h236) call fun v_237 h238 =>
arb (.of (ld1 h238 v_237) h238) call fun v_239 h240 =>
arb (.call F_tree_Side [v_229, v_231, v_239] h240) call fun v_241 h242 =>
arb (.val v_241 h242) call fun side_243 h244 =>
arb (.val (.int .i64 0) h244) call fun k_245 h246 =>
lt (blkK 2 k228) fun k247 =>
(loopN (L_precentorlaw9_TreeSides_13 P call fuel) fuel (upd (upd (upd (upd (upd (upd (upd (upd (upd t 39 v_229) 40 v_231) 41 v_233) 42 v_235) 43 v_237) 44 v_239) 45 v_241) 10 side_243) 11 k_245) h246).bind (lpK k247)

def L_precentorlaw9_TreeSides_10 (P : Program) (call : FuncId → List AVal → Heap → Res AVal) (fuel : Nat) (t : T) (h : Heap) : Res (Ex × T) :=
lt okK fun k =>
lt (sqK (J_precentorlaw9_TreeSides_11 P call fuel k) k) fun k339 =>
arb (.val (t 9) h) call fun v_340 h341 =>
arb (.val (t 8) h341) call fun v_342 h343 =>
arb (.of (lenL v_342) h343) call fun v_344 h345 =>
arb (.of (aBin P .lss 3 (.tmp 33) (.tmp 35) v_340 v_344) h345) call fun v_346 h347 =>
cb v_346 (
k339 .normal (upd (upd (upd (upd t 33 v_340) 34 v_342) 35 v_344) 36 v_346) h347) (
k339 (.exit 0) (upd (upd (upd (upd t 33 v_340) 34 v_342) 35 v_344) 36 v_346) h347)

def S_precentorlaw9_TreeSides (P : Program) (call : FuncId → List AVal → Heap → Res AVal) (fuel : Nat) (l_a0 b_a1 : AVal) (h : Heap) : Res AVal :=
lt (retK P [.tmp 4]) fun k =>
arb (.val (.bool false) h) call fun v_0 h1 =>
arb (.val l_a0 h1) call fun v_2 h3 =>
arb (.of (bldR [.nils, (.int .i64 0)] [(0, 1, v_2)]) h3) call fun v_4 h5 =>
arb (boxR v_4 h5) call fun v_6 h7 =>
arb (.val v_6 h7) call fun f_8 h9 =>
arb (.val f_8 h9) call fun v_10 h11 =>
arb (.call F_precentorhand_Feed_Tree [v_10, (.int .i64 8)] h11) call fun v_12 h13 =>
arb (.val v_12 h13) call fun p_14 h15 =>
arb (.val b_a1 h15) call fun v_16 h17 =>
arb (.val p_14 h17) call fun v_18 h19 =>
arb (.of (lenL v_18) h19) call fun v_20 h21 =>
arb (.of (aBin P .add 3 (.tmp 23) (.const (.int .i64 1)) v_20 (.int .i64 1)) h21) call fun v_22 h23 =>
arb (.call F_precentorhand_Pick [v_16, v_22] h23) call fun v_24 h25 =>
arb (.val v_24 h25) call fun b_26 h27 =>
arb (.val p_14 h27) call fun v_28 h29 =>
arb (.of (lenL v_28) h29) call fun v_30 h31 =>
arb (.of (aBin P .add 3 (.tmp 27) (.const (.int .i64 1)) v_30 (.int .i64 1)) h31) call fun v_32 h33 =>
arb (makR 1 8 [(.int .i64 0)] h33 v_32 v_32) call fun v_34 h35 =>
arb (.val v_34 h35) call fun seen_36 h37 =>
arb (.val p_14 h37) call fun v_38 h39 =>
arb (.val b_26 h39) call fun v_40 h41 =>
arb (.call F_tree_Near [v_38, v_40] h41) call fun v_42 h43 =>
arb (.val v_42 h43) call fun near_44 h45 =>
lt (sqK (J_precentorlaw9_TreeSides_0 P call fuel k) k) fun k217 =>
arb (.val (.int .i64 0) h45) call fun i_218 h219 =>
lt (blkK 0 k217) fun k220 =>
(loopN (L_precentorlaw9_TreeSides_10 P call fuel) fuel (upd (upd (upd (upd (upd (upd (upd (upd (upd (upd (upd (upd (upd (upd (upd (upd (upd (upd (upd (upd (upd (upd (upd (upd (enterT [l_a0, b_a1]) 4 v_0) 16 v_2) 17 v_4) 18 v_6) 5 f_8) 19 v_10) 20 v_12) 6 p_14) 21 v_16) 22 v_18) 23 v_20) 24 v_22) 25 v_24) 1 b_26) 26 v_28) 27 v_30) 28 v_32) 29 v_34) 7 seen_36) 30 v_38) 31 v_40) 32 v_42) 8 near_44) 9 i_218) h219).bind (lpK k220)
theorem E_precentorlaw9_TreeSides (call : FuncId → List AVal → Heap → Res AVal) (fuel : Nat) (l_a0 b_a1 : AVal) (h : Heap) : bodyR Try.prog call fuel Try.f5 [l_a0, b_a1] h = S_precentorlaw9_TreeSides Try.prog call fuel l_a0 b_a1 h := by kernel_rfl
theorem R_precentorlaw9_TreeSides {X : XTab} (l_a0 b_a1 : AVal) {h : Heap} {Q : AVal → Heap → Prop} (hx : X F_precentorlaw9_TreeSides [l_a0, b_a1] = none) (q : Tells (fun m => S_precentorlaw9_TreeSides Try.prog (acallX Try.prog X m) m l_a0 b_a1 h) Q) :
    Tells (fun m => acallX Try.prog X m F_precentorlaw9_TreeSides [l_a0, b_a1] h) Q :=
  Tells.later (q.le fun m => (E_precentorlaw9_TreeSides (acallX Try.prog X m) m l_a0 b_a1 h) ▸ acallX_le Try.func5 hx m h)

/-! ### precentor/precentorlaw9.TreePlaces -/
def J_precentorlaw9_TreePlaces_3 (P : Program) (call : FuncId → List AVal → Heap → Res AVal) (fuel : Nat) (k : Kn (AVal)) (t : T) (h : Heap) : Res (AVal) :=
arb (.val (.bool true) h) call fun v_34 h35 =>
k .ret (upd t 4 v_34) h35

def J_precentorlaw9_TreePlaces_6 (P : Program) (call : FuncId → List AVal → Heap → Res AVal) (fuel : Nat) (k : Kn (Ex × T)) (t : T) (h : Heap) : Res (Ex × T) :=
arb (.val (t 12) h) call fun v_40 h41 =>
arb (.of (aBin P .add 3 (.tmp 86) (.const (.int .i64 1)) v_40 (.int .i64 1)) h41) call fun v_42 h43 =>
arb (.val v_42 h43) call fun x_44 h45 =>
k .normal (upd (upd (upd t 86 v_40) 87 v_42) 12 x_44) h45

def J_precentorlaw9_TreePlaces_5 (P : Program) (call : FuncId → List AVal → Heap → Res AVal) (fuel : Nat) (k : Kn (Ex × T)) (t : T) (h : Heap) : Res (Ex × T) :=
lt (sqK (J_precentorlaw9_TreePlaces_6 P call fuel k) k) fun k46 =>
lt (blkK 3 k46) fun k47 =>
arb (.val (t 11) h) call fun v_48 h49 =>
arb (.val (t 12) h49) call fun v_50 h51 =>
arb (clvR P v_48 [v_50] h51) call fun v_52 h53 =>
arb (.val (t 11) h53) call fun v_54 h55 =>
arb (.val (t 10) h55) call fun v_56 h57 =>
arb (clvR P v_54 [v_56] h57) call fun v_58 h59 =>
arb (.of (aBin P .lss 3 (.tmp 90) (.tmp 93) v_52 v_58) h59) call fun v_60 h61 =>
arb (.val v_60 h61) call fun v_62 h63 =>
gd (wantB v_62 false) (fun c => arb (.val (t 12) h63) call c) h63 fun v_64 h65 =>
gd (wantB v_62 false) (fun c => arb (.val (t 10) h65) call c) h65 fun v_66 h67 =>
gd (wantB v_62 false) (fun c => arb (.of (aBin P .lss 3 (.tmp 96) (.tmp 97) v_64 v_66) h67) call c) h67 fun v_68 h69 =>
gd (wantB v_62 false) (fun c => arb (.val v_68 h69) call c) h69 fun v_70 h71 =>
gd (wantB v_70 true) (fun c => arb (.val (t 11) h71) call c) h71 fun v_72 h73 =>
gd (wantB v_70 true) (fun c => arb (.val (t 12) h73) call c) h73 fun v_74 h75 =>
gd (wantB v_70 true) (fun c => arb (clvR P v_72 [v_74] h75) call c) h75 fun v_76 h77 =>
gd (wantB v_70 true) (fun c => arb (.val (t 11) h77) call c) h77 fun v_78 h79 =>
gd (wantB v_70 true) (fun c => arb (.val (t 10) h79) call c) h79 fun v_80 h81 =>
gd (wantB v_70 true) (fun c => arb (clvR P v_78 [v_80] h81) call c) h81 fun v_82 h83 =>
gd (wantB v_70 true) (fun c => arb (.of (aBin P .eql 3 (.tmp 102) (.tmp 105) v_76 v_82) h83) call c) h83 fun v_84 h85 =>
gd (wantB v_62 false) (fun c => arb (pkR v_70 v_84 (.bool false) h85) call c) h85 fun v_86 h87 =>
arb (pkR v_62 (.bool true) v_86 h87) call fun v_88 h89 =>
cb v_88 (
arb (.val (.bool false) h89) call fun v_90 h91 =>
k47 .ret (upd (upd (upd (upd (upd (upd (upd (upd (upd (upd (upd (upd (upd (upd (upd (upd (upd (upd (upd (upd (upd (upd t 88 v_48) 89 v_50) 90 v_52) 91 v_54) 92 v_56) 93 v_58) 94 v_60) 95 v_62) 96 v_64) 97 v_66) 98 v_68) 99 v_70) 100 v_72) 101 v_74) 102 v_76) 103 v_78) 104 v_80) 105 v_82) 106 v_84) 107 v_86) 108 v_88) 4 v_90) h91) (
k47 .normal (upd (upd (upd (upd (upd (upd (upd (upd (upd (upd (upd (upd (upd (upd (upd (upd (upd (upd (upd (upd (upd t 88 v_48) 89 v_50) 90 v_52) 91 v_54) 92 v_56) 93 v_58) 94 v_60) 95 v_62) 96 v_64) 97 v_66) 98 v_68) 99 v_70) 100 v_72) 101 v_74) 102 v_76) 103 v_78) 104 v_80) 105 v_82) 106 v_84) 107 v_86) 108 v_88) h89)

def L_precentorlaw9_TreePlaces_4 (P : Program) (call : FuncId → List AVal → Heap → Res AVal) (fuel : Nat) (t : T) (h : Heap) : Res (Ex × T) :=
lt okK fun k =>
lt (sqK (J_precentorlaw9_TreePlaces_5 P call fuel k) k) fun k92 =>
arb (.val (t 12) h) call fun v_93 h94 =>
arb (.of (ld1 h94 (t 6)) h94) call fun v_95 h96 =>
arb (.of (lenL v_95) h96) call fun v_97 h98 =>
arb (.of (aBin P .leq 3 (.tmp 82) (.tmp 84) v_93 v_97) h98) call fun v_99 h100 =>
cb v_99 (
k92 .normal (upd (upd (upd (upd t 82 v_93) 83 v_95) 84 v_97) 85 v_99) h100) (
k92 (.exit 2) (upd (upd (upd (upd t 82 v_93) 83 v_95) 84 v_97) 85 v_99) h100)

def J_precentorlaw9_TreePlaces_2 (P : Program) (call : FuncId → List AVal → Heap → Res AVal) (fuel : Nat) (k : Kn (AVal)) (t : T) (h : Heap) : Res (AVal) :=
lt (sqK (J_precentorlaw9_TreePlaces_3 P call fuel k) k) fun k36 =>
arb (.val (.int .i64 0) h) call fun x_37 h38 =>
lt (blkK 2 k36) fun k39 =>
(loopN (L_precentorlaw9_TreePlaces_4 P call fuel) fuel (upd t 12 x_37) h38).bind (lpK k39)

def J_precentorlaw9_TreePlaces_1 (P : Program) (call : FuncId → List AVal → Heap → Res AVal) (fuel : Nat) (k : Kn (AVal)) (t : T) (h : Heap) : Res (AVal) :=
arb (.val (.fn F_precentorlaw9_TreePlaces_1 [] [(t 7), (t 6)]) h) call fun v_30 h31 =>
arb (.val v_30 h31) call fun sum_32 h33 =>
lt (sqK (J_precentorlaw9_TreePlaces_2 P call fuel k) k) fun k101 =>
arb (.val (t 10) h33) call fun v_102 h103 =>
arb (.of (aBin P .lss 3 (.tmp 74) (.const (.int .i64 0)) v_102 (.int .i64 0)) h103) call fun v_104 h105 =>
arb (.val v_104 h105) call fun v_106 h107 =>
gd (wantB v_106 false) (fun c => arb (.val (t 10) h107) call c) h107 fun v_108 h109 =>
gd (wantB v_106 false) (fun c => arb (.of (ld1 h109 (t 6)) h109) call c) h109 fun v_110 h111 =>
gd (wantB v_106 false) (fun c => arb (.of (lenL v_110) h111) call c) h111 fun v_112 h113 =>
gd (wantB v_106 false) (fun c => arb (.of (aBin P .gtr 3 (.tmp 77) (.tmp 79) v_108 v_112) h113) call c) h113 fun v_114 h115 =>
arb (pkR v_106 (.bool true) v_114 h115) call fun v_116 h117 =>
cb v_116 (
arb (.val (.bool false) h117) call fun v_118 h119 =>
k101 .ret (upd (upd (upd (upd (upd (upd (upd (upd (upd (upd (upd t 73 v_30) 11 sum_32) 74 v_102) 75 v_104) 76 v_106) 77 v_108) 78 v_110) 79 v_112) 80 v_114) 81 v_116) 4 v_118) h119) (
k101 .normal (upd (upd (upd (upd (upd (upd (upd (upd (upd (upd t 73 v_30) 11 sum_32) 74 v_102) 75 v_104) 76 v_106) 77 v_108) 78 v_110) 79 v_112) 80 v_114) 81 v_116) h117)

def J_precentorlaw9_TreePlaces_0 (P : Program) (call : FuncId → List AVal → Heap → Res AVal) (fuel : Nat) (k : Kn (AVal)) (t : T) (h : Heap) : Res (AVal) :=
arb (.of (ld1 h (t 6)) h) call fun v_22 h23 =>
arb (.of (ld1 h23 (t 7)) h23) call fun v_24 h25 =>
arb (.call F_tree_Place [v_22, v_24] h25) call fun v_26 h27 =>
arb (.val v_26 h27) call fun at_28 h29 =>
lt (sqK (J_precentorlaw9_TreePlaces_1 P call fuel k) k) fun k120 =>
arb (.call F_precentorlaw9_known [] h29) call fun v_121 h122 =>
arb (.of (aUn P .not v_121) h122) call fun v_123 h124 =>
arb (.val v_123 h124) call fun v_125 h126 =>
gd (wantB v_125 false) (fun c => arb (.val at_28 h126) call c) h126 fun v_127 h128 =>
gd (wantB v_125 false) (fun c => arb (.of (ld1 h128 (t 6)) h128) call c) h128 fun v_129 h130 =>
gd (wantB v_125 false) (fun c => arb (.val (t 8) h130) call c) h130 fun v_131 h132 =>
gd (wantB v_125 false) (fun c => arb (.call F_tree_Place [v_129, v_131] h132) call c) h132 fun v_133 h134 =>
gd (wantB v_125 false) (fun c => arb (.of (aBin P .neq 3 (.tmp 52) (.tmp 55) v_127 v_133) h134) call c) h134 fun v_135 h136 =>
arb (pkR v_125 (.bool true) v_135 h136) call fun v_137 h138 =>
arb (.val v_137 h138) call fun v_139 h140 =>
gd (wantB v_139 false) (fun c => arb (.of (ld1 h140 (t 7)) h140) call c) h140 fun v_141 h142 =>
gd (wantB v_139 false) (fun c => arb (.of (lenL v_141) h142) call c) h142 fun v_143 h144 =>
gd (wantB v_139 false) (fun c => arb (.of (aBin P .eql 3 (.tmp 60) (.const (.int .i64 0)) v_143 (.int .i64 0)) h144) call c) h144 fun v_145 h146 =>
arb (pkR v_139 (.bool true) v_145 h146) call fun v_147 h148 =>
cb v_147 (
arb (.call F_precentorlaw9_known [] h148) call fun v_149 h150 =>
arb (.val v_149 h150) call fun v_151 h152 =>
gd (wantB v_151 true) (fun c => arb (.val at_28 h152) call c) h152 fun v_153 h154 =>
gd (wantB v_151 true) (fun c => arb (.of (aBin P .eql 3 (.tmp 65) (.const (.int .i64 (-1))) v_153 (.int .i64 (-1))) h154) call c) h154 fun v_155 h156 =>
arb (pkR v_151 v_155 (.bool false) h156) call fun v_157 h158 =>
arb (.val v_157 h158) call fun v_159 h160 =>
gd (wantB v_159 true) (fun c => arb (.of (ld1 h160 (t 7)) h160) call c) h160 fun v_161 h162 =>
gd (wantB v_159 true) (fun c => arb (.of (lenL v_161) h162) call c) h162 fun v_163 h164 =>
gd (wantB v_159 true) (fun c => arb (.of (aBin P .eql 3 (.tmp 70) (.const (.int .i64 0)) v_163 (.int .i64 0)) h164) call c) h164 fun v_165 h166 =>
arb (pkR v_159 v_165 (.bool false) h166) call fun v_167 h168 =>
arb (.val v_167 h168) call fun v_169 h170 =>
k120 .ret (upd (upd (upd (upd (upd (upd (upd (upd (upd (upd (upd (upd (upd (upd (upd (upd (upd (upd (upd (upd (upd (upd (upd (upd (upd (upd (upd (upd (upd t 46 v_22) 47 v_24) 48 v_26) 10 at_28) 49 v_121) 50 v_123) 51 v_125) 52 v_127) 53 v_129) 54 v_131) 55 v_133) 56 v_135) 57 v_137) 58 v_139) 59 v_141) 60 v_143) 61 v_145) 62 v_147) 63 v_149) 64 v_151) 65 v_153) 66 v_155) 67 v_157) 68 v_159) 69 v_161) 70 v_163) 71 v_165) 72 v_167) 4 v_169) h170) (
k120 .normal (upd (upd (upd (upd (upd (upd (upd (upd (upd (upd (upd (upd (upd (upd (upd (upd (upd (upd t 46 v_22) 47 v_24) 48 v_26) 10 at_28) 49 v_121) 50 v_123) 51 v_125) 52 v_127) 53 v_129) 54 v_131) 55 v_133) 56 v_135) 57 v_137) 58 v_139) 59 v_141) 60 v_143) 61 v_145) 62 v_147) h148)

def J_precentorlaw9_TreePlaces_9 (P : Program) (call : FuncId → List AVal → Heap → Res AVal) (fuel : Nat) (k : Kn (Ex × T)) (t : T) (h : Heap) : Res (Ex × T) :=
arb (.val (t 9) h) call fun v_175 h176 =>
arb (.of (aBin P .add 3 (.tmp 26) (.const (.int .i64 1)) v_175 (.int .i64 1)) h176) call fun v_177 h178 =>
arb (.val v_177 h178) call fun i_179 h180 =>
k .normal (upd (upd (upd t 26 v_175) 27 v_177) 9 i_179) h180

def J_precentorlaw9_TreePlaces_8 (P : Program) (call : FuncId → List AVal → Heap → Res AVal) (fuel : Nat) (k : Kn (Ex × T)) (t : T) (h : Heap) : Res (Ex × T) :=
lt (sqK (J_precentorlaw9_TreePlaces_9 P call fuel k) k) fun k181 =>
lt (blkK 1 k181) fun k182 =>
obv (.of (ld1 h (t 7)) h) fun v_183 => ifb true <|
obv (.val (t 1) h) fun v_185 =>
obv (.val (t 9) h) fun v_187 =>
obv (.of (ixsR 1 v_185 v_187) h) fun v_189 =>
obv (.of (ld1 h v_189) h) fun v_191 => ifb true <|
obv (.of (ld1 h (t 6)) h) fun v_193 => ifb true <|
obv (.of (lenL v_193) h) fun v_195 =>
obv (.of (aBin P .add 3 (.tmp 34) (.const (.int .i64 1)) v_195 (.int .i64 1)) h) fun v_197 =>
arbE (.call F_precentorhand_Pick [v_191, v_197] h) call fun v_199 h200 => lt h200 fun g200 => ifb (true && (isV v_183 (arVal (.of (ld1 g200 (t 7)) g200)) && true)) <|
arbV (bslR 1 [(.int .i64 0)] 1 g200 [(0, 1, v_199)]) fun v_201 h202 =>
arbE (appR 1 8 h202 v_183 v_201) call fun v_203 h204 => lt h204 fun g204 => ifb (true && true) <|
arbE (stR 1 g204 (t 7) v_203) call fun v_205 h206 => lt h206 fun g206 => ifb (true && true) <|
arb (.of (ld1 g206 (t 7)) g206) call fun v_207 h208 =>
arb (.val (t 9) h208) call fun v_209 h210 =>
arb (.of (ixsR 1 v_207 v_209) h210) call fun v_211 h212 =>
arb (.of (ld1 h212 v_211) h212) call fun v_213 h214 =>
arb (bslR 1 [(.int .i64 0)] 1 h214 [(0, 1, v_213)]) call fun v_215 h216 =>
arb (.val (t 8) h216) call fun v_217 h218 =>
arb (appR 1 8 h218 v_215 v_217) call fun v_219 h220 =>
arb (.val v_219 h220) call fun r_221 h222 =>
k182 .normal (upd (upd (upd (upd (upd (upd (upd (upd (upd (upd (upd (upd (upd (upd (upd (upd (upd (upd (upd t 28 v_183) 29 v_185) 30 v_187) 31 v_189) 32 v_191) 33 v_193) 34 v_195) 35 v_197) 36 v_199) 37 v_201) 38 v_203) 39 v_207) 40 v_209) 41 v_211) 42 v_213) 43 v_215) 44 v_217) 45 v_219) 8 r_221) h222

def L_precentorlaw9_TreePlaces_7 (P : Program) (call : FuncId → List AVal → Heap → Res AVal) (fuel : Nat) (t : T) (h : Heap) : Res (Ex × T) :=
lt okK fun k =>
lt (sqK (J_precentorlaw9_TreePlaces_8 P call fuel k) k) fun k223 =>
arb (.val (t 9) h) call fun v_224 h225 =>
arb (.val (t 1) h225) call fun v_226 h227 =>
arb (.of (lenL v_226) h227) call fun v_228 h229 =>
arb (.of (aBin P .lss 3 (.tmp 18) (.tmp 20) v_224 v_228) h229) call fun v_230 h231 =>
arb (.val v_230 h231) call fun v_232 h233 =>
gd (wantB v_232 true) (fun c => arb (.val (t 9) h233) call c) h233 fun v_234 h235 =>
gd (wantB v_232 true) (fun c => arb (.of (aBin P .lss 3 (.tmp 23) (.const (.int .i64 8)) v_234 (.int .i64 8)) h235) call c) h235 fun v_236 h237 =>
arb (pkR v_232 v_236 (.bool false) h237) call fun v_238 h239 =>
cb v_238 (
k223 .normal (upd (upd (upd (upd (upd (upd (upd (upd t 18 v_224) 19 v_226) 20 v_228) 21 v_230) 22 v_232) 23 v_234) 24 v_236) 25 v_238) h239) (
k223 (.exit 0) (upd (upd (upd (upd (upd (upd (upd (upd t 18 v_224) 19 v_226) 20 v_228) 21 v_230) 22 v_232) 23 v_234) 24 v_236) 25 v_238) h239)

def S_precentorlaw9_TreePlaces (P : Program) (call : FuncId → List AVal → Heap → Res AVal) (fuel : Nat) (l_a0 many_a1 : AVal) (h : Heap) : Res AVal :=
lt (retK P [.tmp 4]) fun k =>
arb (.val (.bool false) h) call fun v_0 h1 =>
arb (.val l_a0 h1) call fun v_2 h3 =>
arb (.of (bldR [.nils, (.int .i64 0)] [(0, 1, v_2)]) h3) call fun v_4 h5 =>
arb (boxR v_4 h5) call fun v_6 h7 =>
arb (.val v_6 h7) call fun f_8 h9 =>
arb (.val f_8 h9) call fun v_10 h11 =>
arb (.call F_precentorhand_Feed_Tree [v_10, (.int .i64 8)] h11) call fun v_12 h13 =>
arb (newR [.nils] h13) call fun p_14 h15 =>
arb (stR 1 h15 p_14 v_12) call fun v_16 h17 =>
arb (newR [.nils] h17) call fun q_18 h19 =>
arb (.val .nils h19) call fun r_20 h21 =>
lt (sqK (J_precentorlaw9_TreePlaces_0 P call fuel k) k) fun k171 =>
arb (.val (.int .i64 0) h21) call fun i_172 h173 =>
lt (blkK 0 k171) fun k174 =>
(loopN (L_precentorlaw9_TreePlaces_7 P call fuel) fuel (upd (upd (upd (upd (upd (upd (upd (upd (upd (upd (upd (enterT [l_a0, many_a1]) 4 v_0) 13 v_2) 14 v_4) 15 v_6) 5 f_8) 16 v_10) 17 v_12) 6 p_14) 7 q_18) 8 r_20) 9 i_172) h173).bind (lpK k174)
theorem E_precentorlaw9_TreePlaces (call : FuncId → List AVal → Heap → Res AVal) (fuel : Nat) (l_a0 many_a1 : AVal) (h : Heap) : bodyR Try.prog call fuel Try.f6 [l_a0, many_a1] h = S_precentorlaw9_TreePlaces Try.prog call fuel l_a0 many_a1 h := by kernel_rfl
theorem R_precentorlaw9_TreePlaces {X : XTab} (l_a0 many_a1 : AVal) {h : Heap} {Q : AVal → Heap → Prop} (hx : X F_precentorlaw9_TreePlaces [l_a0, many_a1] = none) (q : Tells (fun m => S_precentorlaw9_TreePlaces Try.prog (acallX Try.prog X m) m l_a0 many_a1 h) Q) :
    Tells (fun m => acallX Try.prog X m F_precentorlaw9_TreePlaces [l_a0, many_a1] h) Q :=
  Tells.later (q.le fun m => (E_precentorlaw9_TreePlaces (acallX Try.prog X m) m l_a0 many_a1 h) ▸ acallX_le Try.func6 hx m h)

/-! ### precentor/precentorlaw9.parents -/
def J_precentorlaw9_parents_0 (P : Program) (call : FuncId → List AVal → Heap → Res AVal) (fuel : Nat) (k : Kn (AVal)) (t : T) (h : Heap) : Res (AVal) :=
arb (.val (t 1) h) call fun v_2 h3 =>
arb (.call F_precentorhand_Feed_Tree [v_2, (.int .i64 8)] h3) call fun v_4 h5 =>
arb (.val v_4 h5) call fun v_6 h7 =>
k .ret (upd (upd (upd t 13 v_2) 14 v_4) 4 v_6) h7

def S_precentorlaw9_parents (P : Program) (call : FuncId → List AVal → Heap → Res AVal) (fuel : Nat) (raw_a0 f_a1 : AVal) (h : Heap) : Res AVal :=
lt (retK P [.tmp 4]) fun k =>
arb (.val .nils h) call fun v_0 h1 =>
lt (sqK (J_precentorlaw9_parents_0 P call fuel k) k) fun k8 =>
arb (.val f_a1 h1) call fun v_9 h10 =>
arb (.call F_precentorhand_Feed_Next [v_9, (.int .i64 5)] h10) call fun v_11 h12 =>
arb (.of (aBin P .eql 3 (.tmp 6) (.const (.int .i64 0)) v_11 (.int .i64 0)) h12) call fun v_13 h14 =>
cb v_13 (
arb (.val raw_a0 h14) call fun v_15 h16 =>
arb (.val raw_a0 h16) call fun v_17 h18 =>
arb (.of (lenL v_17) h18) call fun v_19 h20 =>
arb (.of (aPureB P (Builtin.min_ #[3, 3] 3) [v_19, (.int .i64 9)]) h20) call fun v_21 h22 =>
arb (.of (slcR 1 v_15 none (some v_21) none) h22) call fun v_23 h24 =>
arb (.val v_23 h24) call fun v_25 h26 =>
k8 .ret (upd (upd (upd (upd (upd (upd (upd (upd (upd (upd (enterT [raw_a0, f_a1]) 4 v_0) 5 v_9) 6 v_11) 7 v_13) 8 v_15) 9 v_17) 10 v_19) 11 v_21) 12 v_23) 4 v_25) h26) (
k8 .normal (upd (upd (upd (upd (enterT [raw_a0, f_a1]) 4 v_0) 5 v_9) 6 v_11) 7 v_13) h14)
theorem E_precentorlaw9_parents (call : FuncId → List AVal → Heap → Res AVal) (fuel : Nat) (raw_a0 f_a1 : AVal) (h : Heap) : bodyR Try.prog call fuel Try.f7 [raw_a0, f_a1] h = S_precentorlaw9_parents Try.prog call fuel raw_a0 f_a1 h := by kernel_rfl
theorem R_precentorlaw9_parents {X : XTab} (raw_a0 f_a1 : AVal) {h : Heap} {Q : AVal → Heap → Prop} (hx : X F_precentorlaw9_parents [raw_a0, f_a1] = none) (q : Tells (fun m => S_precentorlaw9_parents Try.prog (acallX Try.prog X m) m raw_a0 f_a1 h) Q) :
    Tells (fun m => acallX Try.prog X m F_precentorlaw9_parents [raw_a0, f_a1] h) Q :=
  Tells.later (q.le fun m => (E_precentorlaw9_parents (acallX Try.prog X m) m raw_a0 f_a1 h) ▸ acallX_le Try.func7 hx m h)

/-! ### precentor/precentorlaw9.known -/

def S_precentorlaw9_known (P : Program) (call : FuncId → List AVal → Heap → Res AVal) (fuel : Nat) (h : Heap) : Res AVal :=
lt (retK P [.tmp 0]) fun k =>
arb (.val (.bool false) h) call fun v_0 h1 =>
arb (.call F_precentorlaw9_TreeKnown [] h1) call fun v_2 h3 =>
arb (.val v_2 h3) call fun v_4 h5 =>
k .ret (upd (upd (upd (enterT []) 0 v_0) 1 v_2) 0 v_4) h5
theorem E_precentorlaw9_known (call : FuncId → List AVal → Heap → Res AVal) (fuel : Nat) (h : Heap) : bodyR Try.prog call fuel Try.f8 [] h = S_precentorlaw9_known Try.prog call fuel  h := by kernel_rfl
theorem R_precentorlaw9_known {X : XTab} {h : Heap} {Q : AVal → Heap → Prop} (hx : X F_precentorlaw9_known [] = none) (q : Tells (fun m => S_precentorlaw9_known Try.prog (acallX Try.prog X m) m  h) Q) :
    Tells (fun m => acallX Try.prog X m F_precentorlaw9_known [] h) Q :=
  Tells.later (q.le fun m => (E_precentorlaw9_known (acallX Try.prog X m) m  h) ▸ acallX_le Try.func8 hx m h)

/-! ### precentor/precentorlaw9.same -/
def J_precentorlaw9_same_1 (P : Program) (call : FuncId → List AVal → Heap → Res AVal) (fuel : Nat) (k : Kn (AVal)) (t : T) (h : Heap) : Res (AVal) :=
arb (.val (.bool true) h) call fun v_2 h3 =>
k .ret (upd t 4 v_2) h3

def J_precentorlaw9_same_4 (P : Program) (call : FuncId → List AVal → Heap → Res AVal) (fuel : Nat) (k : Kn (Ex × T)) (t : T) (h : Heap) : Res (Ex × T) :=
arb (.val (t 5) h) call fun v_8 h9 =>
arb (.of (aBin P .add 3 (.tmp 15) (.const (.int .i64 1)) v_8 (.int .i64 1)) h9) call fun v_10 h11 =>
arb (.val v_10 h11) call fun i_12 h13 =>
k .normal (upd (upd (upd t 15 v_8) 16 v_10) 5 i_12) h13

def J_precentorlaw9_same_3 (P : Program) (call : FuncId → List AVal → Heap → Res AVal) (fuel : Nat) (k : Kn (Ex × T)) (t : T) (h : Heap) : Res (Ex × T) :=
lt (sqK (J_precentorlaw9_same_4 P call fuel k) k) fun k14 =>
lt (blkK 1 k14) fun k15 =>
obv (.val (t 0) h) fun v_16 =>
obv (.val (t 5) h) fun v_17 =>
obv (.of (ixsR 1 v_16 v_17) h) fun v_18 =>
obv (.of (ld1 h v_18) h) fun v_19 =>
obv (.val (t 1) h) fun v_20 =>
obv (.val (t 5) h) fun v_21 =>
obv (.of (ixsR 1 v_20 v_21) h) fun v_22 =>
obv (.of (ld1 h v_22) h) fun v_23 =>
obv (.of (aBin P .neq 3 (.tmp 20) (.tmp 24) v_19 v_23) h) fun v_24 =>
cb v_24 (
arb (.val (.bool false) h) call fun v_25 h26 =>
k15 .ret (upd (upd (upd (upd (upd (upd (upd (upd (upd (upd t 17 v_16) 18 v_17) 19 v_18) 20 v_19) 21 v_20) 22 v_21) 23 v_22) 24 v_23) 25 v_24) 4 v_25) h26) (
k15 .normal (upd (upd (upd (upd (upd (upd (upd (upd (upd t 17 v_16) 18 v_17) 19 v_18) 20 v_19) 21 v_20) 22 v_21) 23 v_22) 24 v_23) 25 v_24) h)

def L_precentorlaw9_same_2 (P : Program) (call : FuncId → List AVal → Heap → Res AVal) (fuel : Nat) (t : T) (h : Heap) : Res (Ex × T) :=
lt okK fun k =>
lt (sqK (J_precentorlaw9_same_3 P call fuel k) k) fun k27 =>
arb (.val (t 5) h) call fun v_28 h29 =>
arb (.val (t 0) h29) call fun v_30 h31 =>
arb (.of (lenL v_30) h31) call fun v_32 h33 =>
arb (.of (aBin P .lss 3 (.tmp 11) (.tmp 13) v_28 v_32) h33) call fun v_34 h35 =>
cb v_34 (
k27 .normal (upd (upd (upd (upd t 11 v_28) 12 v_30) 13 v_32) 14 v_34) h35) (
k27 (.exit 0) (upd (upd (upd (upd t 11 v_28) 12 v_30) 13 v_32) 14 v_34) h35)

def J_precentorlaw9_same_0 (P : Program) (call : FuncId → List AVal → Heap → Res AVal) (fuel : Nat) (k : Kn (AVal)) (t : T) (h : Heap) : Res (AVal) :=
lt (sqK (J_precentorlaw9_same_1 P call fuel k) k) fun k4 =>
arb (.val (.int .i64 0) h) call fun i_5 h6 =>
lt (blkK 0 k4) fun k7 =>
(loopN (L_precentorlaw9_same_2 P call fuel) fuel (upd t 5 i_5) h6).bind (lpK k7)

def S_precentorlaw9_same (P : Program) (call : FuncId → List AVal → Heap → Res AVal) (fuel : Nat) (a_a0 b_a1 : AVal) (h : Heap) : Res AVal :=
lt (retK P [.tmp 4]) fun k =>
arb (.val (.bool false) h) call fun v_0 h1 =>
lt (sqK (J_precentorlaw9_same_0 P call fuel k) k) fun k36 =>
arb (.val a_a0 h1) call fun v_37 h38 =>
arb (.of (lenL v_37) h38) call fun v_39 h40 =>
arb (.val b_a1 h40) call fun v_41 h42 =>
arb (.of (lenL v_41) h42) call fun v_43 h44 =>
arb (.of (aBin P .neq 3 (.tmp 7) (.tmp 9) v_39 v_43) h44) call fun v_45 h46 =>
cb v_45 (
arb (.val (.bool false) h46) call fun v_47 h48 =>
k36 .ret (upd (upd (upd (upd (upd (upd (upd (enterT [a_a0, b_a1]) 4 v_0) 6 v_37) 7 v_39) 8 v_41) 9 v_43) 10 v_45) 4 v_47) h48) (
k36 .normal (upd (upd (upd (upd (upd (upd (enterT [a_a0, b_a1]) 4 v_0) 6 v_37) 7 v_39) 8 v_41) 9 v_43) 10 v_45) h46)
theorem E_precentorlaw9_same (call : FuncId → List AVal → Heap → Res AVal) (fuel : Nat) (a_a0 b_a1 : AVal) (h : Heap) : bodyR Try.prog call fuel Try.f12 [a_a0, b_a1] h = S_precentorlaw9_same Try.prog call fuel a_a0 b_a1 h := by kernel_rfl
theorem R_precentorlaw9_same {X : XTab} (a_a0 b_a1 : AVal) {h : Heap} {Q : AVal → Heap → Prop} (hx : X F_precentorlaw9_same [a_a0, b_a1] = none) (q : Tells (fun m => S_precentorlaw9_same Try.prog (acallX Try.prog X m) m a_a0 b_a1 h) Q) :
    Tells (fun m => acallX Try.prog X m F_precentorlaw9_same [a_a0, b_a1] h) Q :=
  Tells.later (q.le fun m => (E_precentorlaw9_same (acallX Try.prog X m) m a_a0 b_a1 h) ▸ acallX_le Try.func12 hx m h)

/-! ### precentor/precentorlaw9.TreePlaces$1 -/
def J_precentorlaw9_TreePlaces_1_0 (P : Program) (call : FuncId → List AVal → Heap → Res AVal) (fuel : Nat) (k : Kn (AVal)) (t : T) (h : Heap) : Res (AVal) :=
arb (.val (t 5) h) call fun v_4 h5 =>
arb (.val v_4 h5) call fun v_6 h7 =>
k .ret (upd (upd t 22 v_4) 4 v_6) h7

def J_precentorlaw9_TreePlaces_1_3 (P : Program) (call : FuncId → List AVal → Heap → Res AVal) (fuel : Nat) (k : Kn (Ex × T)) (t : T) (h : Heap) : Res (Ex × T) :=
arb (.val (t 6) h) call fun v_12 h13 =>
arb (.of (aBin P .add 3 (.tmp 11) (.const (.int .i64 1)) v_12 (.int .i64 1)) h13) call fun v_14 h15 =>
arb (.val v_14 h15) call fun i_16 h17 =>
k .normal (upd (upd (upd t 11 v_12) 12 v_14) 6 i_16) h17

def J_precentorlaw9_TreePlaces_1_2 (P : Program) (call : FuncId → List AVal → Heap → Res AVal) (fuel : Nat) (k : Kn (Ex × T)) (t : T) (h : Heap) : Res (Ex × T) :=
lt (sqK (J_precentorlaw9_TreePlaces_1_3 P call fuel k) k) fun k18 =>
lt (blkK 1 k18) fun k19 =>
obv (.val (t 5) h) fun v_20 =>
obv (.of (ld1 h (t 2)) h) fun v_22 => ifb true <|
obv (.val (t 0) h) fun v_24 =>
obv (.of (ld1 h (t 1)) h) fun v_26 => ifb true <|
obv (.val (t 6) h) fun v_28 =>
obv (.of (ixsR 1 v_26 v_28) h) fun v_30 =>
obv (.of (ld1 h v_30) h) fun v_32 => ifb true <|
arbE (.call F_tree_Dist [v_22, v_24, v_32] h) call fun v_34 h35 => lt h35 fun g35 => ifb (true && true) <|
obv (.of (aBin P .add 3 (.tmp 13) (.tmp 20) v_20 v_34) g35) fun v_36 =>
obv (.val v_36 g35) fun n_38 =>
k19 .normal (upd (upd (upd (upd (upd (upd (upd (upd (upd (upd t 13 v_20) 14 v_22) 15 v_24) 16 v_26) 17 v_28) 18 v_30) 19 v_32) 20 v_34) 21 v_36) 5 n_38) g35

def L_precentorlaw9_TreePlaces_1_1 (P : Program) (call : FuncId → List AVal → Heap → Res AVal) (fuel : Nat) (t : T) (h : Heap) : Res (Ex × T) :=
lt okK fun k =>
lt (sqK (J_precentorlaw9_TreePlaces_1_2 P call fuel k) k) fun k40 =>
arb (.val (t 6) h) call fun v_41 h42 =>
arb (.of (ld1 h42 (t 1)) h42) call fun v_43 h44 =>
arb (.of (lenL v_43) h44) call fun v_45 h46 =>
arb (.of (aBin P .lss 3 (.tmp 7) (.tmp 9) v_41 v_45) h46) call fun v_47 h48 =>
cb v_47 (
k40 .normal (upd (upd (upd (upd t 7 v_41) 8 v_43) 9 v_45) 10 v_47) h48) (
k40 (.exit 0) (upd (upd (upd (upd t 7 v_41) 8 v_43) 9 v_45) 10 v_47) h48)

def S_precentorlaw9_TreePlaces_1 (P : Program) (call : FuncId → List AVal → Heap → Res AVal) (fuel : Nat) (x_a0 a1 a2 : AVal) (h : Heap) : Res AVal :=
lt (retK P [.tmp 4]) fun k =>
arb (.val (.int .i64 0) h) call fun v_0 h1 =>
arb (.val (.int .i64 0) h1) call fun n_2 h3 =>
lt (sqK (J_precentorlaw9_TreePlaces_1_0 P call fuel k) k) fun k8 =>
arb (.val (.int .i64 0) h3) call fun i_9 h10 =>
lt (blkK 0 k8) fun k11 =>
(loopN (L_precentorlaw9_TreePlaces_1_1 P call fuel) fuel (upd (upd (upd (enterT [x_a0, a1, a2]) 4 v_0) 5 n_2) 6 i_9) h10).bind (lpK k11)
theorem E_precentorlaw9_TreePlaces_1 (call : FuncId → List AVal → Heap → Res AVal) (fuel : Nat) (x_a0 a1 a2 : AVal) (h : Heap) : bodyR Try.prog call fuel Try.f27 [x_a0, a1, a2] h = S_precentorlaw9_TreePlaces_1 Try.prog call fuel x_a0 a1 a2 h := by kernel_rfl
theorem R_precentorlaw9_TreePlaces_1 {X : XTab} (x_a0 a1 a2 : AVal) {h : Heap} {Q : AVal → Heap → Prop} (hx : X F_precentorlaw9_TreePlaces_1 [x_a0, a1, a2] = none) (q : Tells (fun m => S_precentorlaw9_TreePlaces_1 Try.prog (acallX Try.prog X m) m x_a0 a1 a2 h) Q) :
    Tells (fun m => acallX Try.prog X m F_precentorlaw9_TreePlaces_1 [x_a0, a1, a2] h) Q :=
  Tells.later (q.le fun m => (E_precentorlaw9_TreePlaces_1 (acallX Try.prog X m) m x_a0 a1 a2 h) ▸ acallX_le Try.func27 hx m h)


end Go.Proofs.Ythachecebkmlaaa
