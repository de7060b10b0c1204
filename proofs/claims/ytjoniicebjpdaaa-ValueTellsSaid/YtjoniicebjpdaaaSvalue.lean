/-
  Functions of value in the form of YtjoniicebjpdaaaABS (printed by a program of ours, gen.lean).
-/
import Derived.Test.YtjoniicebjpdaaaSIds
set_option linter.unusedVariables false
namespace Go.Proofs.Ytjoniicebjpdaaa
open Go.Ab
/-! ### precentor/value.Float -/

theorem C_value_Float_0 (h : Heap) (a : AVal) : aLoad Try.prog h 24 a = ldn 5 h a := by kernel_rfl
def S_value_Float (P : Program) (call : FuncId → List AVal → Heap → Res AVal) (fuel : Nat) (x_a0 : AVal) (h : Heap) : Res AVal :=
lt (retK P [.cell 2 24]) fun k =>
arb (newR [(.int .i64 0), (.int .i64 0), (.flt .f64 0), (.str (bs [])), (.bool false)] h) call fun v_0 h1 =>
arb (.val x_a0 h1) call fun v_2 h3 =>
arb (.of (bldR [(.int .i64 0), (.int .i64 0), (.flt .f64 0), (.str (bs [])), (.bool false)] [(0, 1, (.int .i64 2)), (2, 1, v_2)]) h3) call fun v_4 h5 =>
arb (stR 5 h5 v_0 v_4) call fun v_6 h7 =>
k .ret (upd (upd (upd (enterT [x_a0]) 2 v_0) 3 v_2) 4 v_4) h7
theorem E_value_Float (call : FuncId → List AVal → Heap → Res AVal) (fuel : Nat) (x_a0 : AVal) (h : Heap) : bodyR Try.prog call fuel Try.f7 [x_a0] h = S_value_Float Try.prog call fuel x_a0 h := by kernel_rfl
theorem R_value_Float {X : XTab} (x_a0 : AVal) {h : Heap} {Q : AVal → Heap → Prop} (hx : X F_value_Float [x_a0] = none) (q : Tells (fun m => S_value_Float Try.prog (acallX Try.prog X m) m x_a0 h) Q) :
    Tells (fun m => acallX Try.prog X m F_value_Float [x_a0] h) Q :=
  Tells.later (q.le fun m => (E_value_Float (acallX Try.prog X m) m x_a0 h) ▸ acallX_le Try.func7 hx m h)

/-! ### precentor/value.Cmp -/
def J_value_Cmp_0 (P : Program) (call : FuncId → List AVal → Heap → Res AVal) (fuel : Nat) (k : Kn (AVal)) (t : T) (h : Heap) : Res (AVal) :=
arb (.val (.int .i64 0) h) call fun v_8 h9 =>
arb (.val (.bool false) h9) call fun v_10 h11 =>
k .ret (upd (upd t 4 v_8) 5 v_10) h11

def S_value_Cmp (P : Program) (call : FuncId → List AVal → Heap → Res AVal) (fuel : Nat) (a_a0 b_a1 : AVal) (h : Heap) : Res AVal :=
lt (retK P [.tmp 4, .tmp 5]) fun k =>
arb (boxR a_a0 h) call fun a_0 h1 =>
arb (boxR b_a1 h1) call fun b_2 h3 =>
arb (.val (.int .i64 0) h3) call fun v_4 h5 =>
arb (.val (.bool false) h5) call fun v_6 h7 =>
lt (sqK (J_value_Cmp_0 P call fuel k) k) fun k12 =>
lt (blkK 0 k12) fun k13 =>
arb (.of (fadR 0 a_0) h7) call fun v_14 h15 =>
arb (.of (ld1 h15 v_14) h15) call fun v_16 h17 =>
arb (.of (aBin P .eql 3 (.tmp 10) (.const (.int .i64 1)) v_16 (.int .i64 1)) h17) call fun v_18 h19 =>
arb (.val v_18 h19) call fun v_20 h21 =>
gd (wantB v_20 true) (fun c => arb (.of (fadR 0 b_2) h21) call c) h21 fun v_22 h23 =>
gd (wantB v_20 true) (fun c => arb (.of (ld1 h23 v_22) h23) call c) h23 fun v_24 h25 =>
gd (wantB v_20 true) (fun c => arb (.of (aBin P .eql 3 (.tmp 14) (.const (.int .i64 1)) v_24 (.int .i64 1)) h25) call c) h25 fun v_26 h27 =>
arb (pkR v_20 v_26 (.bool false) h27) call fun v_28 h29 =>
arb (.val v_28 h29) call fun v_30 h31 =>
cb v_30 (
arb (.of (fadR 1 a_0) h31) call fun v_32 h33 =>
arb (.of (ld1 h33 v_32) h33) call fun v_34 h35 =>
arb (.of (fadR 1 b_2) h35) call fun v_36 h37 =>
arb (.of (ld1 h37 v_36) h37) call fun v_38 h39 =>
arb (.of (aBin P .lss 2 (.tmp 18) (.tmp 20) v_34 v_38) h39) call fun v_40 h41 =>
arb (.of (fadR 1 a_0) h41) call fun v_42 h43 =>
arb (.of (ld1 h43 v_42) h43) call fun v_44 h45 =>
arb (.of (fadR 1 b_2) h45) call fun v_46 h47 =>
arb (.of (ld1 h47 v_46) h47) call fun v_48 h49 =>
arb (.of (aBin P .gtr 2 (.tmp 23) (.tmp 25) v_44 v_48) h49) call fun v_50 h51 =>
arb (.call F_value_order [v_40, v_50] h51) call fun v_52 h53 =>
arb (.val v_52 h53) call fun v_54 h55 =>
arb (.val (.bool true) h55) call fun v_56 h57 =>
k13 .ret (upd (upd (upd (upd (upd (upd (upd (upd (upd (upd (upd (upd (upd (upd (upd (upd (upd (upd (upd (upd (upd (upd (upd (upd (upd (upd (enterT [a_a0, b_a1]) 2 a_0) 3 b_2) 4 v_4) 5 v_6) 9 v_14) 10 v_16) 11 v_18) 12 v_20) 13 v_22) 14 v_24) 15 v_26) 16 v_28) 8 v_30) 17 v_32) 18 v_34) 19 v_36) 20 v_38) 21 v_40) 22 v_42) 23 v_44) 24 v_46) 25 v_48) 26 v_50) 27 v_52) 4 v_54) 5 v_56) h57) (
arb (.of (fadR 0 a_0) h31) call fun v_58 h59 =>
arb (.of (ld1 h59 v_58) h59) call fun v_60 h61 =>
arb (.of (aBin P .eql 3 (.tmp 30) (.const (.int .i64 2)) v_60 (.int .i64 2)) h61) call fun v_62 h63 =>
arb (.val v_62 h63) call fun v_64 h65 =>
gd (wantB v_64 true) (fun c => arb (.of (fadR 0 b_2) h65) call c) h65 fun v_66 h67 =>
gd (wantB v_64 true) (fun c => arb (.of (ld1 h67 v_66) h67) call c) h67 fun v_68 h69 =>
gd (wantB v_64 true) (fun c => arb (.of (aBin P .eql 3 (.tmp 34) (.const (.int .i64 2)) v_68 (.int .i64 2)) h69) call c) h69 fun v_70 h71 =>
arb (pkR v_64 v_70 (.bool false) h71) call fun v_72 h73 =>
arb (.val v_72 h73) call fun v_74 h75 =>
cb v_74 (
arb (.of (fadR 2 a_0) h75) call fun v_76 h77 =>
arb (.of (ld1 h77 v_76) h77) call fun v_78 h79 =>
arb (.of (fadR 2 b_2) h79) call fun v_80 h81 =>
arb (.of (ld1 h81 v_80) h81) call fun v_82 h83 =>
arb (.call F_float_Cmp [v_78, v_82] h83) call fun v_84 h85 =>
arb (extR v_84 0 h85) call fun v_86 h87 =>
arb (extR v_84 1 h87) call fun v_88 h89 =>
arb (.val v_86 h89) call fun v_90 h91 =>
arb (.val v_88 h91) call fun v_92 h93 =>
k13 .ret (upd (upd (upd (upd (upd (upd (upd (upd (upd (upd (upd (upd (upd (upd (upd (upd (upd (upd (upd (upd (upd (upd (upd (upd (upd (upd (upd (upd (upd (upd (upd (enterT [a_a0, b_a1]) 2 a_0) 3 b_2) 4 v_4) 5 v_6) 9 v_14) 10 v_16) 11 v_18) 12 v_20) 13 v_22) 14 v_24) 15 v_26) 16 v_28) 8 v_30) 29 v_58) 30 v_60) 31 v_62) 32 v_64) 33 v_66) 34 v_68) 35 v_70) 36 v_72) 28 v_74) 37 v_76) 38 v_78) 39 v_80) 40 v_82) 41 v_84) 42 v_86) 43 v_88) 4 v_90) 5 v_92) h93) (
arb (.of (fadR 0 a_0) h75) call fun v_94 h95 =>
arb (.of (ld1 h95 v_94) h95) call fun v_96 h97 =>
arb (.of (aBin P .eql 3 (.tmp 46) (.const (.int .i64 1)) v_96 (.int .i64 1)) h97) call fun v_98 h99 =>
arb (.val v_98 h99) call fun v_100 h101 =>
gd (wantB v_100 true) (fun c => arb (.of (fadR 0 b_2) h101) call c) h101 fun v_102 h103 =>
gd (wantB v_100 true) (fun c => arb (.of (ld1 h103 v_102) h103) call c) h103 fun v_104 h105 =>
gd (wantB v_100 true) (fun c => arb (.of (aBin P .eql 3 (.tmp 50) (.const (.int .i64 2)) v_104 (.int .i64 2)) h105) call c) h105 fun v_106 h107 =>
arb (pkR v_100 v_106 (.bool false) h107) call fun v_108 h109 =>
arb (.val v_108 h109) call fun v_110 h111 =>
cb v_110 (
arb (.of (fadR 1 a_0) h111) call fun v_112 h113 =>
arb (.of (ld1 h113 v_112) h113) call fun v_114 h115 =>
arb (.of (fadR 2 b_2) h115) call fun v_116 h117 =>
arb (.of (ld1 h117 v_116) h117) call fun v_118 h119 =>
arb (.call F_float_CmpInt [v_114, v_118] h119) call fun v_120 h121 =>
arb (extR v_120 0 h121) call fun v_122 h123 =>
arb (extR v_120 1 h123) call fun v_124 h125 =>
arb (.val v_122 h125) call fun v_126 h127 =>
arb (.val v_124 h127) call fun v_128 h129 =>
k13 .ret (upd (upd (upd (upd (upd (upd (upd (upd (upd (upd (upd (upd (upd (upd (upd (upd (upd (upd (upd (upd (upd (upd (upd (upd (upd (upd (upd (upd (upd (upd (upd (upd (upd (upd (upd (upd (upd (upd (upd (upd (enterT [a_a0, b_a1]) 2 a_0) 3 b_2) 4 v_4) 5 v_6) 9 v_14) 10 v_16) 11 v_18) 12 v_20) 13 v_22) 14 v_24) 15 v_26) 16 v_28) 8 v_30) 29 v_58) 30 v_60) 31 v_62) 32 v_64) 33 v_66) 34 v_68) 35 v_70) 36 v_72) 28 v_74) 45 v_94) 46 v_96) 47 v_98) 48 v_100) 49 v_102) 50 v_104) 51 v_106) 52 v_108) 44 v_110) 53 v_112) 54 v_114) 55 v_116) 56 v_118) 57 v_120) 58 v_122) 59 v_124) 4 v_126) 5 v_128) h129) (
arb (.of (fadR 0 a_0) h111) call fun v_130 h131 =>
arb (.of (ld1 h131 v_130) h131) call fun v_132 h133 =>
arb (.of (aBin P .eql 3 (.tmp 62) (.const (.int .i64 2)) v_132 (.int .i64 2)) h133) call fun v_134 h135 =>
arb (.val v_134 h135) call fun v_136 h137 =>
gd (wantB v_136 true) (fun c => arb (.of (fadR 0 b_2) h137) call c) h137 fun v_138 h139 =>
gd (wantB v_136 true) (fun c => arb (.of (ld1 h139 v_138) h139) call c) h139 fun v_140 h141 =>
gd (wantB v_136 true) (fun c => arb (.of (aBin P .eql 3 (.tmp 66) (.const (.int .i64 1)) v_140 (.int .i64 1)) h141) call c) h141 fun v_142 h143 =>
arb (pkR v_136 v_142 (.bool false) h143) call fun v_144 h145 =>
arb (.val v_144 h145) call fun v_146 h147 =>
cb v_146 (
arb (.of (fadR 1 b_2) h147) call fun v_148 h149 =>
arb (.of (ld1 h149 v_148) h149) call fun v_150 h151 =>
arb (.of (fadR 2 a_0) h151) call fun v_152 h153 =>
arb (.of (ld1 h153 v_152) h153) call fun v_154 h155 =>
arb (.call F_float_CmpInt [v_150, v_154] h155) call fun v_156 h157 =>
arb (.val v_156 h157) call fun v_158 h159 =>
arb (extR v_158 0 h159) call fun v_160 h161 =>
arb (extR v_158 1 h161) call fun v_162 h163 =>
arb (.val v_160 h163) call fun c_164 h165 =>
arb (.val v_162 h165) call fun ok_166 h167 =>
arb (.val c_164 h167) call fun v_168 h169 =>
arb (.of (aUn P .neg v_168) h169) call fun v_170 h171 =>
arb (.val ok_166 h171) call fun v_172 h173 =>
arb (.val v_170 h173) call fun v_174 h175 =>
arb (.val v_172 h175) call fun v_176 h177 =>
k13 .ret (upd (upd (upd (upd (upd (upd (upd (upd (upd (upd (upd (upd (upd (upd (upd (upd (upd (upd (upd (upd (upd (upd (upd (upd (upd (upd (upd (upd (upd (upd (upd (upd (upd (upd (upd (upd (upd (upd (upd (upd (upd (upd (upd (upd (upd (upd (upd (upd (upd (upd (upd (upd (upd (upd (upd (enterT [a_a0, b_a1]) 2 a_0) 3 b_2) 4 v_4) 5 v_6) 9 v_14) 10 v_16) 11 v_18) 12 v_20) 13 v_22) 14 v_24) 15 v_26) 16 v_28) 8 v_30) 29 v_58) 30 v_60) 31 v_62) 32 v_64) 33 v_66) 34 v_68) 35 v_70) 36 v_72) 28 v_74) 45 v_94) 46 v_96) 47 v_98) 48 v_100) 49 v_102) 50 v_104) 51 v_106) 52 v_108) 44 v_110) 61 v_130) 62 v_132) 63 v_134) 64 v_136) 65 v_138) 66 v_140) 67 v_142) 68 v_144) 60 v_146) 70 v_148) 71 v_150) 72 v_152) 73 v_154) 74 v_156) 69 v_158) 75 v_160) 76 v_162) 6 c_164) 7 ok_166) 77 v_168) 78 v_170) 79 v_172) 4 v_174) 5 v_176) h177) (
arb (.of (fadR 0 a_0) h147) call fun v_178 h179 =>
arb (.of (ld1 h179 v_178) h179) call fun v_180 h181 =>
arb (.of (aBin P .eql 3 (.tmp 82) (.const (.int .i64 3)) v_180 (.int .i64 3)) h181) call fun v_182 h183 =>
arb (.val v_182 h183) call fun v_184 h185 =>
gd (wantB v_184 true) (fun c => arb (.of (fadR 0 b_2) h185) call c) h185 fun v_186 h187 =>
gd (wantB v_184 true) (fun c => arb (.of (ld1 h187 v_186) h187) call c) h187 fun v_188 h189 =>
gd (wantB v_184 true) (fun c => arb (.of (aBin P .eql 3 (.tmp 86) (.const (.int .i64 3)) v_188 (.int .i64 3)) h189) call c) h189 fun v_190 h191 =>
arb (pkR v_184 v_190 (.bool false) h191) call fun v_192 h193 =>
arb (.val v_192 h193) call fun v_194 h195 =>
cb v_194 (
arb (.of (fadR 3 a_0) h195) call fun v_196 h197 =>
arb (.of (ld1 h197 v_196) h197) call fun v_198 h199 =>
arb (.of (fadR 3 b_2) h199) call fun v_200 h201 =>
arb (.of (ld1 h201 v_200) h201) call fun v_202 h203 =>
arb (.of (aBin P .lss 9 (.tmp 90) (.tmp 92) v_198 v_202) h203) call fun v_204 h205 =>
arb (.of (fadR 3 a_0) h205) call fun v_206 h207 =>
arb (.of (ld1 h207 v_206) h207) call fun v_208 h209 =>
arb (.of (fadR 3 b_2) h209) call fun v_210 h211 =>
arb (.of (ld1 h211 v_210) h211) call fun v_212 h213 =>
arb (.of (aBin P .gtr 9 (.tmp 95) (.tmp 97) v_208 v_212) h213) call fun v_214 h215 =>
arb (.call F_value_order [v_204, v_214] h215) call fun v_216 h217 =>
arb (.val v_216 h217) call fun v_218 h219 =>
arb (.val (.bool true) h219) call fun v_220 h221 =>
k13 .ret (upd (upd (upd (upd (upd (upd (upd (upd (upd (upd (upd (upd (upd (upd (upd (upd (upd (upd (upd (upd (upd (upd (upd (upd (upd (upd (upd (upd (upd (upd (upd (upd (upd (upd (upd (upd (upd (upd (upd (upd (upd (upd (upd (upd (upd (upd (upd (upd (upd (upd (upd (upd (upd (upd (upd (upd (upd (upd (upd (upd (upd (upd (enterT [a_a0, b_a1]) 2 a_0) 3 b_2) 4 v_4) 5 v_6) 9 v_14) 10 v_16) 11 v_18) 12 v_20) 13 v_22) 14 v_24) 15 v_26) 16 v_28) 8 v_30) 29 v_58) 30 v_60) 31 v_62) 32 v_64) 33 v_66) 34 v_68) 35 v_70) 36 v_72) 28 v_74) 45 v_94) 46 v_96) 47 v_98) 48 v_100) 49 v_102) 50 v_104) 51 v_106) 52 v_108) 44 v_110) 61 v_130) 62 v_132) 63 v_134) 64 v_136) 65 v_138) 66 v_140) 67 v_142) 68 v_144) 60 v_146) 81 v_178) 82 v_180) 83 v_182) 84 v_184) 85 v_186) 86 v_188) 87 v_190) 88 v_192) 80 v_194) 89 v_196) 90 v_198) 91 v_200) 92 v_202) 93 v_204) 94 v_206) 95 v_208) 96 v_210) 97 v_212) 98 v_214) 99 v_216) 4 v_218) 5 v_220) h221) (
arb (.of (fadR 0 a_0) h195) call fun v_222 h223 =>
arb (.of (ld1 h223 v_222) h223) call fun v_224 h225 =>
arb (.of (aBin P .eql 3 (.tmp 102) (.const (.int .i64 4)) v_224 (.int .i64 4)) h225) call fun v_226 h227 =>
arb (.val v_226 h227) call fun v_228 h229 =>
gd (wantB v_228 true) (fun c => arb (.of (fadR 0 b_2) h229) call c) h229 fun v_230 h231 =>
gd (wantB v_228 true) (fun c => arb (.of (ld1 h231 v_230) h231) call c) h231 fun v_232 h233 =>
gd (wantB v_228 true) (fun c => arb (.of (aBin P .eql 3 (.tmp 106) (.const (.int .i64 4)) v_232 (.int .i64 4)) h233) call c) h233 fun v_234 h235 =>
arb (pkR v_228 v_234 (.bool false) h235) call fun v_236 h237 =>
arb (.val v_236 h237) call fun v_238 h239 =>
cb v_238 (
arb (.of (fadR 4 a_0) h239) call fun v_240 h241 =>
arb (.of (ld1 h241 v_240) h241) call fun v_242 h243 =>
arb (.of (aUn P .not v_242) h243) call fun v_244 h245 =>
arb (.val v_244 h245) call fun v_246 h247 =>
gd (wantB v_246 true) (fun c => arb (.of (fadR 4 b_2) h247) call c) h247 fun v_248 h249 =>
gd (wantB v_246 true) (fun c => arb (.of (ld1 h249 v_248) h249) call c) h249 fun v_250 h251 =>
arb (pkR v_246 v_250 (.bool false) h251) call fun v_252 h253 =>
arb (.of (fadR 4 a_0) h253) call fun v_254 h255 =>
arb (.of (ld1 h255 v_254) h255) call fun v_256 h257 =>
arb (.val v_256 h257) call fun v_258 h259 =>
gd (wantB v_258 true) (fun c => arb (.of (fadR 4 b_2) h259) call c) h259 fun v_260 h261 =>
gd (wantB v_258 true) (fun c => arb (.of (ld1 h261 v_260) h261) call c) h261 fun v_262 h263 =>
gd (wantB v_258 true) (fun c => arb (.of (aUn P .not v_262) h263) call c) h263 fun v_264 h265 =>
arb (pkR v_258 v_264 (.bool false) h265) call fun v_266 h267 =>
arb (.call F_value_order [v_252, v_266] h267) call fun v_268 h269 =>
arb (.val v_268 h269) call fun v_270 h271 =>
arb (.val (.bool true) h271) call fun v_272 h273 =>
k13 .ret (upd (upd (upd (upd (upd (upd (upd (upd (upd (upd (upd (upd (upd (upd (upd (upd (upd (upd (upd (upd (upd (upd (upd (upd (upd (upd (upd (upd (upd (upd (upd (upd (upd (upd (upd (upd (upd (upd (upd (upd (upd (upd (upd (upd (upd (upd (upd (upd (upd (upd (upd (upd (upd (upd (upd (upd (upd (upd (upd (upd (upd (upd (upd (upd (upd (upd (upd (upd (upd (upd (upd (upd (upd (upd (upd (enterT [a_a0, b_a1]) 2 a_0) 3 b_2) 4 v_4) 5 v_6) 9 v_14) 10 v_16) 11 v_18) 12 v_20) 13 v_22) 14 v_24) 15 v_26) 16 v_28) 8 v_30) 29 v_58) 30 v_60) 31 v_62) 32 v_64) 33 v_66) 34 v_68) 35 v_70) 36 v_72) 28 v_74) 45 v_94) 46 v_96) 47 v_98) 48 v_100) 49 v_102) 50 v_104) 51 v_106) 52 v_108) 44 v_110) 61 v_130) 62 v_132) 63 v_134) 64 v_136) 65 v_138) 66 v_140) 67 v_142) 68 v_144) 60 v_146) 81 v_178) 82 v_180) 83 v_182) 84 v_184) 85 v_186) 86 v_188) 87 v_190) 88 v_192) 80 v_194) 101 v_222) 102 v_224) 103 v_226) 104 v_228) 105 v_230) 106 v_232) 107 v_234) 108 v_236) 100 v_238) 109 v_240) 110 v_242) 111 v_244) 112 v_246) 113 v_248) 114 v_250) 115 v_252) 116 v_254) 117 v_256) 118 v_258) 119 v_260) 120 v_262) 121 v_264) 122 v_266) 123 v_268) 4 v_270) 5 v_272) h273) (
k13 .normal (upd (upd (upd (upd (upd (upd (upd (upd (upd (upd (upd (upd (upd (upd (upd (upd (upd (upd (upd (upd (upd (upd (upd (upd (upd (upd (upd (upd (upd (upd (upd (upd (upd (upd (upd (upd (upd (upd (upd (upd (upd (upd (upd (upd (upd (upd (upd (upd (upd (upd (upd (upd (upd (upd (upd (upd (upd (upd (enterT [a_a0, b_a1]) 2 a_0) 3 b_2) 4 v_4) 5 v_6) 9 v_14) 10 v_16) 11 v_18) 12 v_20) 13 v_22) 14 v_24) 15 v_26) 16 v_28) 8 v_30) 29 v_58) 30 v_60) 31 v_62) 32 v_64) 33 v_66) 34 v_68) 35 v_70) 36 v_72) 28 v_74) 45 v_94) 46 v_96) 47 v_98) 48 v_100) 49 v_102) 50 v_104) 51 v_106) 52 v_108) 44 v_110) 61 v_130) 62 v_132) 63 v_134) 64 v_136) 65 v_138) 66 v_140) 67 v_142) 68 v_144) 60 v_146) 81 v_178) 82 v_180) 83 v_182) 84 v_184) 85 v_186) 86 v_188) 87 v_190) 88 v_192) 80 v_194) 101 v_222) 102 v_224) 103 v_226) 104 v_228) 105 v_230) 106 v_232) 107 v_234) 108 v_236) 100 v_238) h239))))))
theorem E_value_Cmp (call : FuncId → List AVal → Heap → Res AVal) (fuel : Nat) (a_a0 b_a1 : AVal) (h : Heap) : bodyR Try.prog call fuel Try.f9 [a_a0, b_a1] h = S_value_Cmp Try.prog call fuel a_a0 b_a1 h := by kernel_rfl
theorem R_value_Cmp {X : XTab} (a_a0 b_a1 : AVal) {h : Heap} {Q : AVal → Heap → Prop} (hx : X F_value_Cmp [a_a0, b_a1] = none) (q : Tells (fun m => S_value_Cmp Try.prog (acallX Try.prog X m) m a_a0 b_a1 h) Q) :
    Tells (fun m => acallX Try.prog X m F_value_Cmp [a_a0, b_a1] h) Q :=
  Tells.later (q.le fun m => (E_value_Cmp (acallX Try.prog X m) m a_a0 b_a1 h) ▸ acallX_le Try.func9 hx m h)

/-! ### precentor/value.Int -/

theorem C_value_Int_0 (h : Heap) (a : AVal) : aLoad Try.prog h 24 a = ldn 5 h a := by kernel_rfl
def S_value_Int (P : Program) (call : FuncId → List AVal → Heap → Res AVal) (fuel : Nat) (n_a0 : AVal) (h : Heap) : Res AVal :=
lt (retK P [.cell 2 24]) fun k =>
arb (newR [(.int .i64 0), (.int .i64 0), (.flt .f64 0), (.str (bs [])), (.bool false)] h) call fun v_0 h1 =>
arb (.val n_a0 h1) call fun v_2 h3 =>
arb (.of (bldR [(.int .i64 0), (.int .i64 0), (.flt .f64 0), (.str (bs [])), (.bool false)] [(0, 1, (.int .i64 1)), (1, 1, v_2)]) h3) call fun v_4 h5 =>
arb (stR 5 h5 v_0 v_4) call fun v_6 h7 =>
k .ret (upd (upd (upd (enterT [n_a0]) 2 v_0) 3 v_2) 4 v_4) h7
theorem E_value_Int (call : FuncId → List AVal → Heap → Res AVal) (fuel : Nat) (n_a0 : AVal) (h : Heap) : bodyR Try.prog call fuel Try.f10 [n_a0] h = S_value_Int Try.prog call fuel n_a0 h := by kernel_rfl
theorem R_value_Int {X : XTab} (n_a0 : AVal) {h : Heap} {Q : AVal → Heap → Prop} (hx : X F_value_Int [n_a0] = none) (q : Tells (fun m => S_value_Int Try.prog (acallX Try.prog X m) m n_a0 h) Q) :
    Tells (fun m => acallX Try.prog X m F_value_Int [n_a0] h) Q :=
  Tells.later (q.le fun m => (E_value_Int (acallX Try.prog X m) m n_a0 h) ▸ acallX_le Try.func10 hx m h)

/-! ### precentor/value.Bool -/

theorem C_value_Bool_0 (h : Heap) (a : AVal) : aLoad Try.prog h 24 a = ldn 5 h a := by kernel_rfl
def S_value_Bool (P : Program) (call : FuncId → List AVal → Heap → Res AVal) (fuel : Nat) (b_a0 : AVal) (h : Heap) : Res AVal :=
lt (retK P [.cell 2 24]) fun k =>
arb (newR [(.int .i64 0), (.int .i64 0), (.flt .f64 0), (.str (bs [])), (.bool false)] h) call fun v_0 h1 =>
arb (.val b_a0 h1) call fun v_2 h3 =>
arb (.of (bldR [(.int .i64 0), (.int .i64 0), (.flt .f64 0), (.str (bs [])), (.bool false)] [(0, 1, (.int .i64 4)), (4, 1, v_2)]) h3) call fun v_4 h5 =>
arb (stR 5 h5 v_0 v_4) call fun v_6 h7 =>
k .ret (upd (upd (upd (enterT [b_a0]) 2 v_0) 3 v_2) 4 v_4) h7
theorem E_value_Bool (call : FuncId → List AVal → Heap → Res AVal) (fuel : Nat) (b_a0 : AVal) (h : Heap) : bodyR Try.prog call fuel Try.f11 [b_a0] h = S_value_Bool Try.prog call fuel b_a0 h := by kernel_rfl
theorem R_value_Bool {X : XTab} (b_a0 : AVal) {h : Heap} {Q : AVal → Heap → Prop} (hx : X F_value_Bool [b_a0] = none) (q : Tells (fun m => S_value_Bool Try.prog (acallX Try.prog X m) m b_a0 h) Q) :
    Tells (fun m => acallX Try.prog X m F_value_Bool [b_a0] h) Q :=
  Tells.later (q.le fun m => (E_value_Bool (acallX Try.prog X m) m b_a0 h) ▸ acallX_le Try.func11 hx m h)

/-! ### precentor/value.Text -/

theorem C_value_Text_0 (h : Heap) (a : AVal) : aLoad Try.prog h 24 a = ldn 5 h a := by kernel_rfl
def S_value_Text (P : Program) (call : FuncId → List AVal → Heap → Res AVal) (fuel : Nat) (s_a0 : AVal) (h : Heap) : Res AVal :=
lt (retK P [.cell 2 24]) fun k =>
arb (newR [(.int .i64 0), (.int .i64 0), (.flt .f64 0), (.str (bs [])), (.bool false)] h) call fun v_0 h1 =>
arb (.val s_a0 h1) call fun v_2 h3 =>
arb (.of (bldR [(.int .i64 0), (.int .i64 0), (.flt .f64 0), (.str (bs [])), (.bool false)] [(0, 1, (.int .i64 3)), (3, 1, v_2)]) h3) call fun v_4 h5 =>
arb (stR 5 h5 v_0 v_4) call fun v_6 h7 =>
k .ret (upd (upd (upd (enterT [s_a0]) 2 v_0) 3 v_2) 4 v_4) h7
theorem E_value_Text (call : FuncId → List AVal → Heap → Res AVal) (fuel : Nat) (s_a0 : AVal) (h : Heap) : bodyR Try.prog call fuel Try.f12 [s_a0] h = S_value_Text Try.prog call fuel s_a0 h := by kernel_rfl
theorem R_value_Text {X : XTab} (s_a0 : AVal) {h : Heap} {Q : AVal → Heap → Prop} (hx : X F_value_Text [s_a0] = none) (q : Tells (fun m => S_value_Text Try.prog (acallX Try.prog X m) m s_a0 h) Q) :
    Tells (fun m => acallX Try.prog X m F_value_Text [s_a0] h) Q :=
  Tells.later (q.le fun m => (E_value_Text (acallX Try.prog X m) m s_a0 h) ▸ acallX_le Try.func12 hx m h)

/-! ### precentor/value.Is -/

def S_value_Is (P : Program) (call : FuncId → List AVal → Heap → Res AVal) (fuel : Nat) (a_a0 b_a1 : AVal) (h : Heap) : Res AVal :=
lt (retK P [.tmp 4]) fun k =>
arb (boxR a_a0 h) call fun a_0 h1 =>
arb (boxR b_a1 h1) call fun b_2 h3 =>
arb (.val (.bool false) h3) call fun v_4 h5 =>
arb (.of (ldn 5 h5 a_0) h5) call fun v_6 h7 =>
arb (.of (ldn 5 h7 b_2) h7) call fun v_8 h9 =>
arb (.call F_value_Cmp [v_6, v_8] h9) call fun v_10 h11 =>
arb (.val v_10 h11) call fun v_12 h13 =>
arb (extR v_12 0 h13) call fun v_14 h15 =>
arb (extR v_12 1 h15) call fun v_16 h17 =>
arb (.val v_14 h17) call fun c_18 h19 =>
arb (.val v_16 h19) call fun ok_20 h21 =>
arb (.val ok_20 h21) call fun v_22 h23 =>
arb (.val v_22 h23) call fun v_24 h25 =>
gd (wantB v_24 true) (fun c => arb (.val c_18 h25) call c) h25 fun v_26 h27 =>
gd (wantB v_24 true) (fun c => arb (.of (aBin P .eql 3 (.tmp 15) (.const (.int .i64 0)) v_26 (.int .i64 0)) h27) call c) h27 fun v_28 h29 =>
arb (pkR v_24 v_28 (.bool false) h29) call fun v_30 h31 =>
arb (.val v_30 h31) call fun v_32 h33 =>
k .ret (upd (upd (upd (upd (upd (upd (upd (upd (upd (upd (upd (upd (upd (upd (upd (upd (upd (enterT [a_a0, b_a1]) 2 a_0) 3 b_2) 4 v_4) 8 v_6) 9 v_8) 10 v_10) 7 v_12) 11 v_14) 12 v_16) 5 c_18) 6 ok_20) 13 v_22) 14 v_24) 15 v_26) 16 v_28) 17 v_30) 4 v_32) h33
theorem E_value_Is (call : FuncId → List AVal → Heap → Res AVal) (fuel : Nat) (a_a0 b_a1 : AVal) (h : Heap) : bodyR Try.prog call fuel Try.f14 [a_a0, b_a1] h = S_value_Is Try.prog call fuel a_a0 b_a1 h := by kernel_rfl
theorem R_value_Is {X : XTab} (a_a0 b_a1 : AVal) {h : Heap} {Q : AVal → Heap → Prop} (hx : X F_value_Is [a_a0, b_a1] = none) (q : Tells (fun m => S_value_Is Try.prog (acallX Try.prog X m) m a_a0 b_a1 h) Q) :
    Tells (fun m => acallX Try.prog X m F_value_Is [a_a0, b_a1] h) Q :=
  Tells.later (q.le fun m => (E_value_Is (acallX Try.prog X m) m a_a0 b_a1 h) ▸ acallX_le Try.func14 hx m h)

/-! ### precentor/value.Same -/

def S_value_Same (P : Program) (call : FuncId → List AVal → Heap → Res AVal) (fuel : Nat) (a_a0 b_a1 : AVal) (h : Heap) : Res AVal :=
lt (retK P [.tmp 4]) fun k =>
arb (boxR a_a0 h) call fun a_0 h1 =>
arb (boxR b_a1 h1) call fun b_2 h3 =>
arb (.val (.bool false) h3) call fun v_4 h5 =>
arb (.of (fadR 0 a_0) h5) call fun v_6 h7 =>
arb (.of (ld1 h7 v_6) h7) call fun v_8 h9 =>
arb (.of (fadR 0 b_2) h9) call fun v_10 h11 =>
arb (.of (ld1 h11 v_10) h11) call fun v_12 h13 =>
arb (.of (aBin P .eql 3 (.tmp 6) (.tmp 8) v_8 v_12) h13) call fun v_14 h15 =>
arb (.val v_14 h15) call fun v_16 h17 =>
gd (wantB v_16 true) (fun c => arb (.of (fadR 1 a_0) h17) call c) h17 fun v_18 h19 =>
gd (wantB v_16 true) (fun c => arb (.of (ld1 h19 v_18) h19) call c) h19 fun v_20 h21 =>
gd (wantB v_16 true) (fun c => arb (.of (fadR 1 b_2) h21) call c) h21 fun v_22 h23 =>
gd (wantB v_16 true) (fun c => arb (.of (ld1 h23 v_22) h23) call c) h23 fun v_24 h25 =>
gd (wantB v_16 true) (fun c => arb (.of (aBin P .eql 2 (.tmp 12) (.tmp 14) v_20 v_24) h25) call c) h25 fun v_26 h27 =>
arb (pkR v_16 v_26 (.bool false) h27) call fun v_28 h29 =>
arb (.val v_28 h29) call fun v_30 h31 =>
gd (wantB v_30 true) (fun c => arb (.of (fadR 3 a_0) h31) call c) h31 fun v_32 h33 =>
gd (wantB v_30 true) (fun c => arb (.of (ld1 h33 v_32) h33) call c) h33 fun v_34 h35 =>
gd (wantB v_30 true) (fun c => arb (.of (fadR 3 b_2) h35) call c) h35 fun v_36 h37 =>
gd (wantB v_30 true) (fun c => arb (.of (ld1 h37 v_36) h37) call c) h37 fun v_38 h39 =>
gd (wantB v_30 true) (fun c => arb (.of (aBin P .eql 9 (.tmp 19) (.tmp 21) v_34 v_38) h39) call c) h39 fun v_40 h41 =>
arb (pkR v_30 v_40 (.bool false) h41) call fun v_42 h43 =>
arb (.val v_42 h43) call fun v_44 h45 =>
gd (wantB v_44 true) (fun c => arb (.of (fadR 4 a_0) h45) call c) h45 fun v_46 h47 =>
gd (wantB v_44 true) (fun c => arb (.of (ld1 h47 v_46) h47) call c) h47 fun v_48 h49 =>
gd (wantB v_44 true) (fun c => arb (.of (fadR 4 b_2) h49) call c) h49 fun v_50 h51 =>
gd (wantB v_44 true) (fun c => arb (.of (ld1 h51 v_50) h51) call c) h51 fun v_52 h53 =>
gd (wantB v_44 true) (fun c => arb (.of (aBin P .eql 4 (.tmp 26) (.tmp 28) v_48 v_52) h53) call c) h53 fun v_54 h55 =>
arb (pkR v_44 v_54 (.bool false) h55) call fun v_56 h57 =>
arb (.val v_56 h57) call fun v_58 h59 =>
gd (wantB v_58 true) (fun c => arb (.of (fadR 2 a_0) h59) call c) h59 fun v_60 h61 =>
gd (wantB v_58 true) (fun c => arb (.of (ld1 h61 v_60) h61) call c) h61 fun v_62 h63 =>
gd (wantB v_58 true) (fun c => arb (.of (fadR 2 b_2) h63) call c) h63 fun v_64 h65 =>
gd (wantB v_58 true) (fun c => arb (.of (ld1 h65 v_64) h65) call c) h65 fun v_66 h67 =>
gd (wantB v_58 true) (fun c => arb (.call F_float_Same [v_62, v_66] h67) call c) h67 fun v_68 h69 =>
arb (pkR v_58 v_68 (.bool false) h69) call fun v_70 h71 =>
arb (.val v_70 h71) call fun v_72 h73 =>
k .ret (upd (upd (upd (upd (upd (upd (upd (upd (upd (upd (upd (upd (upd (upd (upd (upd (upd (upd (upd (upd (upd (upd (upd (upd (upd (upd (upd (upd (upd (upd (upd (upd (upd (upd (upd (upd (upd (enterT [a_a0, b_a1]) 2 a_0) 3 b_2) 4 v_4) 5 v_6) 6 v_8) 7 v_10) 8 v_12) 9 v_14) 10 v_16) 11 v_18) 12 v_20) 13 v_22) 14 v_24) 15 v_26) 16 v_28) 17 v_30) 18 v_32) 19 v_34) 20 v_36) 21 v_38) 22 v_40) 23 v_42) 24 v_44) 25 v_46) 26 v_48) 27 v_50) 28 v_52) 29 v_54) 30 v_56) 31 v_58) 32 v_60) 33 v_62) 34 v_64) 35 v_66) 36 v_68) 37 v_70) 4 v_72) h73
theorem E_value_Same (call : FuncId → List AVal → Heap → Res AVal) (fuel : Nat) (a_a0 b_a1 : AVal) (h : Heap) : bodyR Try.prog call fuel Try.f15 [a_a0, b_a1] h = S_value_Same Try.prog call fuel a_a0 b_a1 h := by kernel_rfl
theorem R_value_Same {X : XTab} (a_a0 b_a1 : AVal) {h : Heap} {Q : AVal → Heap → Prop} (hx : X F_value_Same [a_a0, b_a1] = none) (q : Tells (fun m => S_value_Same Try.prog (acallX Try.prog X m) m a_a0 b_a1 h) Q) :
    Tells (fun m => acallX Try.prog X m F_value_Same [a_a0, b_a1] h) Q :=
  Tells.later (q.le fun m => (E_value_Same (acallX Try.prog X m) m a_a0 b_a1 h) ▸ acallX_le Try.func15 hx m h)

/-! ### precentor/value.Right -/
def J_value_Right_0 (P : Program) (call : FuncId → List AVal → Heap → Res AVal) (fuel : Nat) (k : Kn (AVal)) (t : T) (h : Heap) : Res (AVal) :=
arb (.of (ldn 5 h (t 3)) h) call fun v_14 h15 =>
arb (.of (bldR [(.int .i64 0), (.int .i64 0), (.flt .f64 0), (.str (bs [])), (.bool false)] []) h15) call fun v_16 h17 =>
arb (.of (aBin P .eql 24 (.tmp 20) (.tmp 21) v_14 v_16) h17) call fun v_18 h19 =>
arb (.val v_18 h19) call fun v_20 h21 =>
gd (wantB v_20 true) (fun c => arb (.of (fadR 3 (t 1)) h21) call c) h21 fun v_22 h23 =>
gd (wantB v_20 true) (fun c => arb (.of (ld1 h23 v_22) h23) call c) h23 fun v_24 h25 =>
gd (wantB v_20 true) (fun c => arb (.of (lenS v_24) h25) call c) h25 fun v_26 h27 =>
gd (wantB v_20 true) (fun c => arb (.of (aBin P .leq 3 (.tmp 26) (.const (.int .i64 12)) v_26 (.int .i64 12)) h27) call c) h27 fun v_28 h29 =>
arb (pkR v_20 v_28 (.bool false) h29) call fun v_30 h31 =>
arb (.val v_30 h31) call fun v_32 h33 =>
k .ret (upd (upd (upd (upd (upd (upd (upd (upd (upd (upd t 20 v_14) 21 v_16) 22 v_18) 23 v_20) 24 v_22) 25 v_24) 26 v_26) 27 v_28) 28 v_30) 2 v_32) h33

def S_value_Right (P : Program) (call : FuncId → List AVal → Heap → Res AVal) (fuel : Nat) (v_a0 : AVal) (h : Heap) : Res AVal :=
lt (retK P [.tmp 2]) fun k =>
arb (boxR v_a0 h) call fun v_0 h1 =>
arb (.val (.bool false) h1) call fun v_2 h3 =>
arb (.of (ldn 5 h3 v_0) h3) call fun v_4 h5 =>
arb (newR [(.int .i64 0), (.int .i64 0), (.flt .f64 0), (.str (bs [])), (.bool false)] h5) call fun rest_6 h7 =>
arb (stR 5 h7 rest_6 v_4) call fun v_8 h9 =>
arb (.of (fadR 0 rest_6) h9) call fun v_10 h11 =>
arb (stR 1 h11 v_10 (.int .i64 0)) call fun v_12 h13 =>
lt (sqK (J_value_Right_0 P call fuel k) k) fun k34 =>
arb (.of (fadR 0 v_0) h13) call fun v_35 h36 =>
arb (.of (ld1 h36 v_35) h36) call fun v_37 h38 =>
lt (blkK 0 k34) fun k39 =>
arb (.of (aBin P .eql 3 (.tmp 7) (.const (.int .i64 1)) v_37 (.int .i64 1)) h38) call fun v_40 h41 =>
arb (.val v_40 h41) call fun v_42 h43 =>
cb v_42 (
arb (.of (fadR 1 rest_6) h43) call fun v_44 h45 =>
arb (stR 1 h45 v_44 (.int .i64 0)) call fun v_46 h47 =>
k39 .normal (upd (upd (upd (upd (upd (upd (upd (upd (upd (upd (enterT [v_a0]) 1 v_0) 2 v_2) 4 v_4) 3 rest_6) 5 v_10) 6 v_35) 7 v_37) 9 v_40) 8 v_42) 10 v_44) h47) (
arb (.of (aBin P .eql 3 (.tmp 7) (.const (.int .i64 2)) v_37 (.int .i64 2)) h43) call fun v_48 h49 =>
arb (.val v_48 h49) call fun v_50 h51 =>
cb v_50 (
arb (.of (fadR 2 rest_6) h51) call fun v_52 h53 =>
arb (stR 1 h53 v_52 (.flt .f64 0)) call fun v_54 h55 =>
k39 .normal (upd (upd (upd (upd (upd (upd (upd (upd (upd (upd (upd (upd (enterT [v_a0]) 1 v_0) 2 v_2) 4 v_4) 3 rest_6) 5 v_10) 6 v_35) 7 v_37) 9 v_40) 8 v_42) 12 v_48) 11 v_50) 13 v_52) h55) (
arb (.of (aBin P .eql 3 (.tmp 7) (.const (.int .i64 3)) v_37 (.int .i64 3)) h51) call fun v_56 h57 =>
arb (.val v_56 h57) call fun v_58 h59 =>
cb v_58 (
arb (.of (fadR 3 rest_6) h59) call fun v_60 h61 =>
arb (stR 1 h61 v_60 (.str (bs []))) call fun v_62 h63 =>
k39 .normal (upd (upd (upd (upd (upd (upd (upd (upd (upd (upd (upd (upd (upd (upd (enterT [v_a0]) 1 v_0) 2 v_2) 4 v_4) 3 rest_6) 5 v_10) 6 v_35) 7 v_37) 9 v_40) 8 v_42) 12 v_48) 11 v_50) 15 v_56) 14 v_58) 16 v_60) h63) (
arb (.of (aBin P .eql 3 (.tmp 7) (.const (.int .i64 4)) v_37 (.int .i64 4)) h59) call fun v_64 h65 =>
arb (.val v_64 h65) call fun v_66 h67 =>
cb v_66 (
arb (.of (fadR 4 rest_6) h67) call fun v_68 h69 =>
arb (stR 1 h69 v_68 (.bool false)) call fun v_70 h71 =>
k39 .normal (upd (upd (upd (upd (upd (upd (upd (upd (upd (upd (upd (upd (upd (upd (upd (upd (enterT [v_a0]) 1 v_0) 2 v_2) 4 v_4) 3 rest_6) 5 v_10) 6 v_35) 7 v_37) 9 v_40) 8 v_42) 12 v_48) 11 v_50) 15 v_56) 14 v_58) 18 v_64) 17 v_66) 19 v_68) h71) (
arb (.val (.bool false) h67) call fun v_72 h73 =>
k39 .ret (upd (upd (upd (upd (upd (upd (upd (upd (upd (upd (upd (upd (upd (upd (upd (upd (enterT [v_a0]) 1 v_0) 2 v_2) 4 v_4) 3 rest_6) 5 v_10) 6 v_35) 7 v_37) 9 v_40) 8 v_42) 12 v_48) 11 v_50) 15 v_56) 14 v_58) 18 v_64) 17 v_66) 2 v_72) h73))))
theorem E_value_Right (call : FuncId → List AVal → Heap → Res AVal) (fuel : Nat) (v_a0 : AVal) (h : Heap) : bodyR Try.prog call fuel Try.f16 [v_a0] h = S_value_Right Try.prog call fuel v_a0 h := by kernel_rfl
theorem R_value_Right {X : XTab} (v_a0 : AVal) {h : Heap} {Q : AVal → Heap → Prop} (hx : X F_value_Right [v_a0] = none) (q : Tells (fun m => S_value_Right Try.prog (acallX Try.prog X m) m v_a0 h) Q) :
    Tells (fun m => acallX Try.prog X m F_value_Right [v_a0] h) Q :=
  Tells.later (q.le fun m => (E_value_Right (acallX Try.prog X m) m v_a0 h) ▸ acallX_le Try.func16 hx m h)

/-! ### precentor/value.order -/
def J_value_order_1 (P : Program) (call : FuncId → List AVal → Heap → Res AVal) (fuel : Nat) (k : Kn (AVal)) (t : T) (h : Heap) : Res (AVal) :=
arb (.val (.int .i64 0) h) call fun v_2 h3 =>
k .ret (upd t 4 v_2) h3

def J_value_order_0 (P : Program) (call : FuncId → List AVal → Heap → Res AVal) (fuel : Nat) (k : Kn (AVal)) (t : T) (h : Heap) : Res (AVal) :=
lt (sqK (J_value_order_1 P call fuel k) k) fun k4 =>
arb (.val (t 1) h) call fun v_5 h6 =>
cb v_5 (
arb (.val (.int .i64 1) h6) call fun v_7 h8 =>
k4 .ret (upd (upd t 6 v_5) 4 v_7) h8) (
k4 .normal (upd t 6 v_5) h6)

def S_value_order (P : Program) (call : FuncId → List AVal → Heap → Res AVal) (fuel : Nat) (below_a0 above_a1 : AVal) (h : Heap) : Res AVal :=
lt (retK P [.tmp 4]) fun k =>
arb (.val (.int .i64 0) h) call fun v_0 h1 =>
lt (sqK (J_value_order_0 P call fuel k) k) fun k9 =>
arb (.val below_a0 h1) call fun v_10 h11 =>
cb v_10 (
arb (.val (.int .i64 (-1)) h11) call fun v_12 h13 =>
k9 .ret (upd (upd (upd (enterT [below_a0, above_a1]) 4 v_0) 5 v_10) 4 v_12) h13) (
k9 .normal (upd (upd (enterT [below_a0, above_a1]) 4 v_0) 5 v_10) h11)
theorem E_value_order (call : FuncId → List AVal → Heap → Res AVal) (fuel : Nat) (below_a0 above_a1 : AVal) (h : Heap) : bodyR Try.prog call fuel Try.f25 [below_a0, above_a1] h = S_value_order Try.prog call fuel below_a0 above_a1 h := by kernel_rfl
theorem R_value_order {X : XTab} (below_a0 above_a1 : AVal) {h : Heap} {Q : AVal → Heap → Prop} (hx : X F_value_order [below_a0, above_a1] = none) (q : Tells (fun m => S_value_order Try.prog (acallX Try.prog X m) m below_a0 above_a1 h) Q) :
    Tells (fun m => acallX Try.prog X m F_value_order [below_a0, above_a1] h) Q :=
  Tells.later (q.le fun m => (E_value_order (acallX Try.prog X m) m below_a0 above_a1 h) ▸ acallX_le Try.func25 hx m h)


end Go.Proofs.Ytjoniicebjpdaaa
