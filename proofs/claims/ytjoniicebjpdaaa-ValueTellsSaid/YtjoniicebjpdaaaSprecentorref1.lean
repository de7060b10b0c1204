/-
  Functions of precentorref1 in the form of YtjoniicebjpdaaaABS (printed by a program of ours, gen.lean).
-/
import Derived.Test.YtjoniicebjpdaaaSIds
set_option linter.unusedVariables false
namespace Go.Proofs.Ytjoniicebjpdaaa
open Go.Ab
/-! ### precentor/precentorref1.CmpValue -/
def J_precentorref1_CmpValue_0 (P : Program) (call : FuncId → List AVal → Heap → Res AVal) (fuel : Nat) (k : Kn (AVal)) (t : T) (h : Heap) : Res (AVal) :=
arb (.val (.int .i64 0) h) call fun v_8 h9 =>
arb (.val (.bool false) h9) call fun v_10 h11 =>
k .ret (upd (upd t 4 v_8) 5 v_10) h11

def J_precentorref1_CmpValue_2 (P : Program) (call : FuncId → List AVal → Heap → Res AVal) (fuel : Nat) (k : Kn (AVal)) (t : T) (h : Heap) : Res (AVal) :=
arb (.val (.int .i64 0) h) call fun v_32 h33 =>
arb (.val (.bool true) h33) call fun v_34 h35 =>
k .ret (upd (upd t 4 v_32) 5 v_34) h35

def J_precentorref1_CmpValue_1 (P : Program) (call : FuncId → List AVal → Heap → Res AVal) (fuel : Nat) (k : Kn (AVal)) (t : T) (h : Heap) : Res (AVal) :=
lt (sqK (J_precentorref1_CmpValue_2 P call fuel k) k) fun k36 =>
arb (.of (fadR 1 (t 2)) h) call fun v_37 h38 =>
arb (.of (ld1 h38 v_37) h38) call fun v_39 h40 =>
arb (.of (fadR 1 (t 3)) h40) call fun v_41 h42 =>
arb (.of (ld1 h42 v_41) h42) call fun v_43 h44 =>
arb (.of (aBin P .gtr 2 (.tmp 23) (.tmp 25) v_39 v_43) h44) call fun v_45 h46 =>
cb v_45 (
arb (.val (.int .i64 1) h46) call fun v_47 h48 =>
arb (.val (.bool true) h48) call fun v_49 h50 =>
k36 .ret (upd (upd (upd (upd (upd (upd (upd t 22 v_37) 23 v_39) 24 v_41) 25 v_43) 26 v_45) 4 v_47) 5 v_49) h50) (
k36 .normal (upd (upd (upd (upd (upd t 22 v_37) 23 v_39) 24 v_41) 25 v_43) 26 v_45) h46)

def J_precentorref1_CmpValue_4 (P : Program) (call : FuncId → List AVal → Heap → Res AVal) (fuel : Nat) (k : Kn (AVal)) (t : T) (h : Heap) : Res (AVal) :=
arb (.val (.int .i64 0) h) call fun v_204 h205 =>
arb (.val (.bool true) h205) call fun v_206 h207 =>
k .ret (upd (upd t 4 v_204) 5 v_206) h207

def J_precentorref1_CmpValue_3 (P : Program) (call : FuncId → List AVal → Heap → Res AVal) (fuel : Nat) (k : Kn (AVal)) (t : T) (h : Heap) : Res (AVal) :=
lt (sqK (J_precentorref1_CmpValue_4 P call fuel k) k) fun k208 =>
arb (.of (fadR 3 (t 2)) h) call fun v_209 h210 =>
arb (.of (ld1 h210 v_209) h210) call fun v_211 h212 =>
arb (.of (fadR 3 (t 3)) h212) call fun v_213 h214 =>
arb (.of (ld1 h214 v_213) h214) call fun v_215 h216 =>
arb (.of (aBin P .gtr 9 (.tmp 94) (.tmp 96) v_211 v_215) h216) call fun v_217 h218 =>
cb v_217 (
arb (.val (.int .i64 1) h218) call fun v_219 h220 =>
arb (.val (.bool true) h220) call fun v_221 h222 =>
k208 .ret (upd (upd (upd (upd (upd (upd (upd t 93 v_209) 94 v_211) 95 v_213) 96 v_215) 97 v_217) 4 v_219) 5 v_221) h222) (
k208 .normal (upd (upd (upd (upd (upd t 93 v_209) 94 v_211) 95 v_213) 96 v_215) 97 v_217) h218)

def J_precentorref1_CmpValue_6 (P : Program) (call : FuncId → List AVal → Heap → Res AVal) (fuel : Nat) (k : Kn (AVal)) (t : T) (h : Heap) : Res (AVal) :=
arb (.val (.int .i64 1) h) call fun v_256 h257 =>
arb (.val (.bool true) h257) call fun v_258 h259 =>
k .ret (upd (upd t 4 v_256) 5 v_258) h259

def J_precentorref1_CmpValue_5 (P : Program) (call : FuncId → List AVal → Heap → Res AVal) (fuel : Nat) (k : Kn (AVal)) (t : T) (h : Heap) : Res (AVal) :=
lt (sqK (J_precentorref1_CmpValue_6 P call fuel k) k) fun k260 =>
arb (.of (fadR 4 (t 3)) h) call fun v_261 h262 =>
arb (.of (ld1 h262 v_261) h262) call fun v_263 h264 =>
cb v_263 (
arb (.val (.int .i64 (-1)) h264) call fun v_265 h266 =>
arb (.val (.bool true) h266) call fun v_267 h268 =>
k260 .ret (upd (upd (upd (upd t 112 v_261) 113 v_263) 4 v_265) 5 v_267) h268) (
k260 .normal (upd (upd t 112 v_261) 113 v_263) h264)

def S_precentorref1_CmpValue (P : Program) (call : FuncId → List AVal → Heap → Res AVal) (fuel : Nat) (a_a0 b_a1 : AVal) (h : Heap) : Res AVal :=
lt (retK P [.tmp 4, .tmp 5]) fun k =>
arb (boxR a_a0 h) call fun a_0 h1 =>
arb (boxR b_a1 h1) call fun b_2 h3 =>
arb (.val (.int .i64 0) h3) call fun v_4 h5 =>
arb (.val (.bool false) h5) call fun v_6 h7 =>
lt (sqK (J_precentorref1_CmpValue_0 P call fuel k) k) fun k12 =>
lt (blkK 0 k12) fun k13 =>
arb (.of (fadR 0 a_0) h7) call fun v_14 h15 =>
arb (.of (ld1 h15 v_14) h15) call fun v_16 h17 =>
arb (.of (aBin P .eql 3 (.tmp 10) (.const (.int .i64 1)) v_16 (.int .i64 1)) h17) call fun v_18 h19 =>
arb (.val v_18 h19) call fun v_20 h21 =>
gd (wantB v_20 true) (fun c => arb (.of (fadR 0 b_2) h21) call c) h21 fun v_22 h23 =>
gd (wantB v_20 true) (fun c => arb (.of (ld1 h23 v_22) h23) call c) h23 fun v_24 h25 =>
gd (wantB v_20 true) (fun c => arb (.of (aBin P .eql 3 (.tmp 14) (.const (.int .i64 1)) v_24 (.int .i64 1)) h25) call c) h25 fun v_26 h27 =>
arb (pkR v_20 v_26 (.bool false) h27) call fun v_28 h29 =>
arb (.val v_28 h29) call fun v_30 h31 =>
cb v_30 (
lt (sqK (J_precentorref1_CmpValue_1 P call fuel k13) k13) fun k51 =>
arb (.of (fadR 1 a_0) h31) call fun v_52 h53 =>
arb (.of (ld1 h53 v_52) h53) call fun v_54 h55 =>
arb (.of (fadR 1 b_2) h55) call fun v_56 h57 =>
arb (.of (ld1 h57 v_56) h57) call fun v_58 h59 =>
arb (.of (aBin P .lss 2 (.tmp 18) (.tmp 20) v_54 v_58) h59) call fun v_60 h61 =>
cb v_60 (
arb (.val (.int .i64 (-1)) h61) call fun v_62 h63 =>
arb (.val (.bool true) h63) call fun v_64 h65 =>
k51 .ret (upd (upd (upd (upd (upd (upd (upd (upd (upd (upd (upd (upd (upd (upd (upd (upd (upd (upd (upd (upd (enterT [a_a0, b_a1]) 2 a_0) 3 b_2) 4 v_4) 5 v_6) 9 v_14) 10 v_16) 11 v_18) 12 v_20) 13 v_22) 14 v_24) 15 v_26) 16 v_28) 8 v_30) 17 v_52) 18 v_54) 19 v_56) 20 v_58) 21 v_60) 4 v_62) 5 v_64) h65) (
k51 .normal (upd (upd (upd (upd (upd (upd (upd (upd (upd (upd (upd (upd (upd (upd (upd (upd (upd (upd (enterT [a_a0, b_a1]) 2 a_0) 3 b_2) 4 v_4) 5 v_6) 9 v_14) 10 v_16) 11 v_18) 12 v_20) 13 v_22) 14 v_24) 15 v_26) 16 v_28) 8 v_30) 17 v_52) 18 v_54) 19 v_56) 20 v_58) 21 v_60) h61)) (
arb (.of (fadR 0 a_0) h31) call fun v_66 h67 =>
arb (.of (ld1 h67 v_66) h67) call fun v_68 h69 =>
arb (.of (aBin P .eql 3 (.tmp 29) (.const (.int .i64 1)) v_68 (.int .i64 1)) h69) call fun v_70 h71 =>
arb (.val v_70 h71) call fun v_72 h73 =>
gd (wantB v_72 true) (fun c => arb (.of (fadR 0 b_2) h73) call c) h73 fun v_74 h75 =>
gd (wantB v_72 true) (fun c => arb (.of (ld1 h75 v_74) h75) call c) h75 fun v_76 h77 =>
gd (wantB v_72 true) (fun c => arb (.of (aBin P .eql 3 (.tmp 33) (.const (.int .i64 2)) v_76 (.int .i64 2)) h77) call c) h77 fun v_78 h79 =>
arb (pkR v_72 v_78 (.bool false) h79) call fun v_80 h81 =>
arb (.val v_80 h81) call fun v_82 h83 =>
cb v_82 (
arb (.of (fadR 1 a_0) h83) call fun v_84 h85 =>
arb (.of (ld1 h85 v_84) h85) call fun v_86 h87 =>
arb (.of (fadR 2 b_2) h87) call fun v_88 h89 =>
arb (.of (ld1 h89 v_88) h89) call fun v_90 h91 =>
arb (.call F_precentorref1_CmpInt [v_86, v_90] h91) call fun v_92 h93 =>
arb (extR v_92 0 h93) call fun v_94 h95 =>
arb (extR v_92 1 h95) call fun v_96 h97 =>
arb (.val v_94 h97) call fun v_98 h99 =>
arb (.val v_96 h99) call fun v_100 h101 =>
k13 .ret (upd (upd (upd (upd (upd (upd (upd (upd (upd (upd (upd (upd (upd (upd (upd (upd (upd (upd (upd (upd (upd (upd (upd (upd (upd (upd (upd (upd (upd (upd (upd (enterT [a_a0, b_a1]) 2 a_0) 3 b_2) 4 v_4) 5 v_6) 9 v_14) 10 v_16) 11 v_18) 12 v_20) 13 v_22) 14 v_24) 15 v_26) 16 v_28) 8 v_30) 28 v_66) 29 v_68) 30 v_70) 31 v_72) 32 v_74) 33 v_76) 34 v_78) 35 v_80) 27 v_82) 36 v_84) 37 v_86) 38 v_88) 39 v_90) 40 v_92) 41 v_94) 42 v_96) 4 v_98) 5 v_100) h101) (
arb (.of (fadR 0 a_0) h83) call fun v_102 h103 =>
arb (.of (ld1 h103 v_102) h103) call fun v_104 h105 =>
arb (.of (aBin P .eql 3 (.tmp 45) (.const (.int .i64 2)) v_104 (.int .i64 2)) h105) call fun v_106 h107 =>
arb (.val v_106 h107) call fun v_108 h109 =>
gd (wantB v_108 true) (fun c => arb (.of (fadR 0 b_2) h109) call c) h109 fun v_110 h111 =>
gd (wantB v_108 true) (fun c => arb (.of (ld1 h111 v_110) h111) call c) h111 fun v_112 h113 =>
gd (wantB v_108 true) (fun c => arb (.of (aBin P .eql 3 (.tmp 49) (.const (.int .i64 1)) v_112 (.int .i64 1)) h113) call c) h113 fun v_114 h115 =>
arb (pkR v_108 v_114 (.bool false) h115) call fun v_116 h117 =>
arb (.val v_116 h117) call fun v_118 h119 =>
cb v_118 (
arb (.of (fadR 1 b_2) h119) call fun v_120 h121 =>
arb (.of (ld1 h121 v_120) h121) call fun v_122 h123 =>
arb (.of (fadR 2 a_0) h123) call fun v_124 h125 =>
arb (.of (ld1 h125 v_124) h125) call fun v_126 h127 =>
arb (.call F_precentorref1_CmpInt [v_122, v_126] h127) call fun v_128 h129 =>
arb (.val v_128 h129) call fun v_130 h131 =>
arb (extR v_130 0 h131) call fun v_132 h133 =>
arb (extR v_130 1 h133) call fun v_134 h135 =>
arb (.val v_132 h135) call fun c_136 h137 =>
arb (.val v_134 h137) call fun ok_138 h139 =>
arb (.val c_136 h139) call fun v_140 h141 =>
arb (.of (aUn P .neg v_140) h141) call fun v_142 h143 =>
arb (.val ok_138 h143) call fun v_144 h145 =>
arb (.val v_142 h145) call fun v_146 h147 =>
arb (.val v_144 h147) call fun v_148 h149 =>
k13 .ret (upd (upd (upd (upd (upd (upd (upd (upd (upd (upd (upd (upd (upd (upd (upd (upd (upd (upd (upd (upd (upd (upd (upd (upd (upd (upd (upd (upd (upd (upd (upd (upd (upd (upd (upd (upd (upd (upd (upd (upd (upd (upd (upd (upd (upd (upd (enterT [a_a0, b_a1]) 2 a_0) 3 b_2) 4 v_4) 5 v_6) 9 v_14) 10 v_16) 11 v_18) 12 v_20) 13 v_22) 14 v_24) 15 v_26) 16 v_28) 8 v_30) 28 v_66) 29 v_68) 30 v_70) 31 v_72) 32 v_74) 33 v_76) 34 v_78) 35 v_80) 27 v_82) 44 v_102) 45 v_104) 46 v_106) 47 v_108) 48 v_110) 49 v_112) 50 v_114) 51 v_116) 43 v_118) 53 v_120) 54 v_122) 55 v_124) 56 v_126) 57 v_128) 52 v_130) 58 v_132) 59 v_134) 6 c_136) 7 ok_138) 60 v_140) 61 v_142) 62 v_144) 4 v_146) 5 v_148) h149) (
arb (.of (fadR 0 a_0) h119) call fun v_150 h151 =>
arb (.of (ld1 h151 v_150) h151) call fun v_152 h153 =>
arb (.of (aBin P .eql 3 (.tmp 65) (.const (.int .i64 2)) v_152 (.int .i64 2)) h153) call fun v_154 h155 =>
arb (.val v_154 h155) call fun v_156 h157 =>
gd (wantB v_156 true) (fun c => arb (.of (fadR 0 b_2) h157) call c) h157 fun v_158 h159 =>
gd (wantB v_156 true) (fun c => arb (.of (ld1 h159 v_158) h159) call c) h159 fun v_160 h161 =>
gd (wantB v_156 true) (fun c => arb (.of (aBin P .eql 3 (.tmp 69) (.const (.int .i64 2)) v_160 (.int .i64 2)) h161) call c) h161 fun v_162 h163 =>
arb (pkR v_156 v_162 (.bool false) h163) call fun v_164 h165 =>
arb (.val v_164 h165) call fun v_166 h167 =>
cb v_166 (
arb (.of (fadR 2 a_0) h167) call fun v_168 h169 =>
arb (.of (ld1 h169 v_168) h169) call fun v_170 h171 =>
arb (.of (fadR 2 b_2) h171) call fun v_172 h173 =>
arb (.of (ld1 h173 v_172) h173) call fun v_174 h175 =>
arb (.call F_precentorref1_Cmp [v_170, v_174] h175) call fun v_176 h177 =>
arb (extR v_176 0 h177) call fun v_178 h179 =>
arb (extR v_176 1 h179) call fun v_180 h181 =>
arb (.val v_178 h181) call fun v_182 h183 =>
arb (.val v_180 h183) call fun v_184 h185 =>
k13 .ret (upd (upd (upd (upd (upd (upd (upd (upd (upd (upd (upd (upd (upd (upd (upd (upd (upd (upd (upd (upd (upd (upd (upd (upd (upd (upd (upd (upd (upd (upd (upd (upd (upd (upd (upd (upd (upd (upd (upd (upd (upd (upd (upd (upd (upd (upd (upd (upd (upd (enterT [a_a0, b_a1]) 2 a_0) 3 b_2) 4 v_4) 5 v_6) 9 v_14) 10 v_16) 11 v_18) 12 v_20) 13 v_22) 14 v_24) 15 v_26) 16 v_28) 8 v_30) 28 v_66) 29 v_68) 30 v_70) 31 v_72) 32 v_74) 33 v_76) 34 v_78) 35 v_80) 27 v_82) 44 v_102) 45 v_104) 46 v_106) 47 v_108) 48 v_110) 49 v_112) 50 v_114) 51 v_116) 43 v_118) 64 v_150) 65 v_152) 66 v_154) 67 v_156) 68 v_158) 69 v_160) 70 v_162) 71 v_164) 63 v_166) 72 v_168) 73 v_170) 74 v_172) 75 v_174) 76 v_176) 77 v_178) 78 v_180) 4 v_182) 5 v_184) h185) (
arb (.of (fadR 0 a_0) h167) call fun v_186 h187 =>
arb (.of (ld1 h187 v_186) h187) call fun v_188 h189 =>
arb (.of (aBin P .eql 3 (.tmp 81) (.const (.int .i64 3)) v_188 (.int .i64 3)) h189) call fun v_190 h191 =>
arb (.val v_190 h191) call fun v_192 h193 =>
gd (wantB v_192 true) (fun c => arb (.of (fadR 0 b_2) h193) call c) h193 fun v_194 h195 =>
gd (wantB v_192 true) (fun c => arb (.of (ld1 h195 v_194) h195) call c) h195 fun v_196 h197 =>
gd (wantB v_192 true) (fun c => arb (.of (aBin P .eql 3 (.tmp 85) (.const (.int .i64 3)) v_196 (.int .i64 3)) h197) call c) h197 fun v_198 h199 =>
arb (pkR v_192 v_198 (.bool false) h199) call fun v_200 h201 =>
arb (.val v_200 h201) call fun v_202 h203 =>
cb v_202 (
lt (sqK (J_precentorref1_CmpValue_3 P call fuel k13) k13) fun k223 =>
arb (.of (fadR 3 a_0) h203) call fun v_224 h225 =>
arb (.of (ld1 h225 v_224) h225) call fun v_226 h227 =>
arb (.of (fadR 3 b_2) h227) call fun v_228 h229 =>
arb (.of (ld1 h229 v_228) h229) call fun v_230 h231 =>
arb (.of (aBin P .lss 9 (.tmp 89) (.tmp 91) v_226 v_230) h231) call fun v_232 h233 =>
cb v_232 (
arb (.val (.int .i64 (-1)) h233) call fun v_234 h235 =>
arb (.val (.bool true) h235) call fun v_236 h237 =>
k223 .ret (upd (upd (upd (upd (upd (upd (upd (upd (upd (upd (upd (upd (upd (upd (upd (upd (upd (upd (upd (upd (upd (upd (upd (upd (upd (upd (upd (upd (upd (upd (upd (upd (upd (upd (upd (upd (upd (upd (upd (upd (upd (upd (upd (upd (upd (upd (upd (upd (upd (upd (upd (upd (upd (upd (upd (upd (enterT [a_a0, b_a1]) 2 a_0) 3 b_2) 4 v_4) 5 v_6) 9 v_14) 10 v_16) 11 v_18) 12 v_20) 13 v_22) 14 v_24) 15 v_26) 16 v_28) 8 v_30) 28 v_66) 29 v_68) 30 v_70) 31 v_72) 32 v_74) 33 v_76) 34 v_78) 35 v_80) 27 v_82) 44 v_102) 45 v_104) 46 v_106) 47 v_108) 48 v_110) 49 v_112) 50 v_114) 51 v_116) 43 v_118) 64 v_150) 65 v_152) 66 v_154) 67 v_156) 68 v_158) 69 v_160) 70 v_162) 71 v_164) 63 v_166) 80 v_186) 81 v_188) 82 v_190) 83 v_192) 84 v_194) 85 v_196) 86 v_198) 87 v_200) 79 v_202) 88 v_224) 89 v_226) 90 v_228) 91 v_230) 92 v_232) 4 v_234) 5 v_236) h237) (
k223 .normal (upd (upd (upd (upd (upd (upd (upd (upd (upd (upd (upd (upd (upd (upd (upd (upd (upd (upd (upd (upd (upd (upd (upd (upd (upd (upd (upd (upd (upd (upd (upd (upd (upd (upd (upd (upd (upd (upd (upd (upd (upd (upd (upd (upd (upd (upd (upd (upd (upd (upd (upd (upd (upd (upd (enterT [a_a0, b_a1]) 2 a_0) 3 b_2) 4 v_4) 5 v_6) 9 v_14) 10 v_16) 11 v_18) 12 v_20) 13 v_22) 14 v_24) 15 v_26) 16 v_28) 8 v_30) 28 v_66) 29 v_68) 30 v_70) 31 v_72) 32 v_74) 33 v_76) 34 v_78) 35 v_80) 27 v_82) 44 v_102) 45 v_104) 46 v_106) 47 v_108) 48 v_110) 49 v_112) 50 v_114) 51 v_116) 43 v_118) 64 v_150) 65 v_152) 66 v_154) 67 v_156) 68 v_158) 69 v_160) 70 v_162) 71 v_164) 63 v_166) 80 v_186) 81 v_188) 82 v_190) 83 v_192) 84 v_194) 85 v_196) 86 v_198) 87 v_200) 79 v_202) 88 v_224) 89 v_226) 90 v_228) 91 v_230) 92 v_232) h233)) (
arb (.of (fadR 0 a_0) h203) call fun v_238 h239 =>
arb (.of (ld1 h239 v_238) h239) call fun v_240 h241 =>
arb (.of (aBin P .eql 3 (.tmp 100) (.const (.int .i64 4)) v_240 (.int .i64 4)) h241) call fun v_242 h243 =>
arb (.val v_242 h243) call fun v_244 h245 =>
gd (wantB v_244 true) (fun c => arb (.of (fadR 0 b_2) h245) call c) h245 fun v_246 h247 =>
gd (wantB v_244 true) (fun c => arb (.of (ld1 h247 v_246) h247) call c) h247 fun v_248 h249 =>
gd (wantB v_244 true) (fun c => arb (.of (aBin P .eql 3 (.tmp 104) (.const (.int .i64 4)) v_248 (.int .i64 4)) h249) call c) h249 fun v_250 h251 =>
arb (pkR v_244 v_250 (.bool false) h251) call fun v_252 h253 =>
arb (.val v_252 h253) call fun v_254 h255 =>
cb v_254 (
lt (sqK (J_precentorref1_CmpValue_5 P call fuel k13) k13) fun k269 =>
arb (.of (fadR 4 a_0) h255) call fun v_270 h271 =>
arb (.of (ld1 h271 v_270) h271) call fun v_272 h273 =>
arb (.of (fadR 4 b_2) h273) call fun v_274 h275 =>
arb (.of (ld1 h275 v_274) h275) call fun v_276 h277 =>
arb (.of (aBin P .eql 4 (.tmp 108) (.tmp 110) v_272 v_276) h277) call fun v_278 h279 =>
cb v_278 (
arb (.val (.int .i64 0) h279) call fun v_280 h281 =>
arb (.val (.bool true) h281) call fun v_282 h283 =>
k269 .ret (upd (upd (upd (upd (upd (upd (upd (upd (upd (upd (upd (upd (upd (upd (upd (upd (upd (upd (upd (upd (upd (upd (upd (upd (upd (upd (upd (upd (upd (upd (upd (upd (upd (upd (upd (upd (upd (upd (upd (upd (upd (upd (upd (upd (upd (upd (upd (upd (upd (upd (upd (upd (upd (upd (upd (upd (upd (upd (upd (upd (upd (upd (upd (upd (upd (enterT [a_a0, b_a1]) 2 a_0) 3 b_2) 4 v_4) 5 v_6) 9 v_14) 10 v_16) 11 v_18) 12 v_20) 13 v_22) 14 v_24) 15 v_26) 16 v_28) 8 v_30) 28 v_66) 29 v_68) 30 v_70) 31 v_72) 32 v_74) 33 v_76) 34 v_78) 35 v_80) 27 v_82) 44 v_102) 45 v_104) 46 v_106) 47 v_108) 48 v_110) 49 v_112) 50 v_114) 51 v_116) 43 v_118) 64 v_150) 65 v_152) 66 v_154) 67 v_156) 68 v_158) 69 v_160) 70 v_162) 71 v_164) 63 v_166) 80 v_186) 81 v_188) 82 v_190) 83 v_192) 84 v_194) 85 v_196) 86 v_198) 87 v_200) 79 v_202) 99 v_238) 100 v_240) 101 v_242) 102 v_244) 103 v_246) 104 v_248) 105 v_250) 106 v_252) 98 v_254) 107 v_270) 108 v_272) 109 v_274) 110 v_276) 111 v_278) 4 v_280) 5 v_282) h283) (
k269 .normal (upd (upd (upd (upd (upd (upd (upd (upd (upd (upd (upd (upd (upd (upd (upd (upd (upd (upd (upd (upd (upd (upd (upd (upd (upd (upd (upd (upd (upd (upd (upd (upd (upd (upd (upd (upd (upd (upd (upd (upd (upd (upd (upd (upd (upd (upd (upd (upd (upd (upd (upd (upd (upd (upd (upd (upd (upd (upd (upd (upd (upd (upd (upd (enterT [a_a0, b_a1]) 2 a_0) 3 b_2) 4 v_4) 5 v_6) 9 v_14) 10 v_16) 11 v_18) 12 v_20) 13 v_22) 14 v_24) 15 v_26) 16 v_28) 8 v_30) 28 v_66) 29 v_68) 30 v_70) 31 v_72) 32 v_74) 33 v_76) 34 v_78) 35 v_80) 27 v_82) 44 v_102) 45 v_104) 46 v_106) 47 v_108) 48 v_110) 49 v_112) 50 v_114) 51 v_116) 43 v_118) 64 v_150) 65 v_152) 66 v_154) 67 v_156) 68 v_158) 69 v_160) 70 v_162) 71 v_164) 63 v_166) 80 v_186) 81 v_188) 82 v_190) 83 v_192) 84 v_194) 85 v_196) 86 v_198) 87 v_200) 79 v_202) 99 v_238) 100 v_240) 101 v_242) 102 v_244) 103 v_246) 104 v_248) 105 v_250) 106 v_252) 98 v_254) 107 v_270) 108 v_272) 109 v_274) 110 v_276) 111 v_278) h279)) (
k13 .normal (upd (upd (upd (upd (upd (upd (upd (upd (upd (upd (upd (upd (upd (upd (upd (upd (upd (upd (upd (upd (upd (upd (upd (upd (upd (upd (upd (upd (upd (upd (upd (upd (upd (upd (upd (upd (upd (upd (upd (upd (upd (upd (upd (upd (upd (upd (upd (upd (upd (upd (upd (upd (upd (upd (upd (upd (upd (upd (enterT [a_a0, b_a1]) 2 a_0) 3 b_2) 4 v_4) 5 v_6) 9 v_14) 10 v_16) 11 v_18) 12 v_20) 13 v_22) 14 v_24) 15 v_26) 16 v_28) 8 v_30) 28 v_66) 29 v_68) 30 v_70) 31 v_72) 32 v_74) 33 v_76) 34 v_78) 35 v_80) 27 v_82) 44 v_102) 45 v_104) 46 v_106) 47 v_108) 48 v_110) 49 v_112) 50 v_114) 51 v_116) 43 v_118) 64 v_150) 65 v_152) 66 v_154) 67 v_156) 68 v_158) 69 v_160) 70 v_162) 71 v_164) 63 v_166) 80 v_186) 81 v_188) 82 v_190) 83 v_192) 84 v_194) 85 v_196) 86 v_198) 87 v_200) 79 v_202) 99 v_238) 100 v_240) 101 v_242) 102 v_244) 103 v_246) 104 v_248) 105 v_250) 106 v_252) 98 v_254) h255))))))
theorem E_precentorref1_CmpValue (call : FuncId → List AVal → Heap → Res AVal) (fuel : Nat) (a_a0 b_a1 : AVal) (h : Heap) : bodyR Try.prog call fuel Try.f19 [a_a0, b_a1] h = S_precentorref1_CmpValue Try.prog call fuel a_a0 b_a1 h := by kernel_rfl
theorem R_precentorref1_CmpValue {X : XTab} (a_a0 b_a1 : AVal) {h : Heap} {Q : AVal → Heap → Prop} (hx : X F_precentorref1_CmpValue [a_a0, b_a1] = none) (q : Tells (fun m => S_precentorref1_CmpValue Try.prog (acallX Try.prog X m) m a_a0 b_a1 h) Q) :
    Tells (fun m => acallX Try.prog X m F_precentorref1_CmpValue [a_a0, b_a1] h) Q :=
  Tells.later (q.le fun m => (E_precentorref1_CmpValue (acallX Try.prog X m) m a_a0 b_a1 h) ▸ acallX_le Try.func19 hx m h)

/-! ### precentor/precentorref1.RightValue -/
def J_precentorref1_RightValue_0 (P : Program) (call : FuncId → List AVal → Heap → Res AVal) (fuel : Nat) (k : Kn (AVal)) (t : T) (h : Heap) : Res (AVal) :=
arb (.val (.bool false) h) call fun v_20 h21 =>
k .ret (upd t 2 v_20) h21

def S_precentorref1_RightValue (P : Program) (call : FuncId → List AVal → Heap → Res AVal) (fuel : Nat) (v_a0 : AVal) (h : Heap) : Res AVal :=
lt (retK P [.tmp 2]) fun k =>
arb (boxR v_a0 h) call fun v_0 h1 =>
arb (.val (.bool false) h1) call fun v_2 h3 =>
obv (.of (fadR 1 v_0) h3) fun v_4 =>
obv (.of (ld1 h3 v_4) h3) fun v_5 =>
obv (.of (aBin P .eql 2 (.tmp 8) (.const (.int .i64 0)) v_5 (.int .i64 0)) h3) fun v_6 =>
obv (.of (fadR 2 v_0) h3) fun v_7 =>
obv (.of (ld1 h3 v_7) h3) fun v_8 =>
obv (.of (aBin P .eql 22 (.tmp 11) (.const (.float .f64 0)) v_8 (.flt .f64 0)) h3) fun v_9 =>
obv (.of (fadR 3 v_0) h3) fun v_10 =>
obv (.of (ld1 h3 v_10) h3) fun v_11 =>
obv (.of (aBin P .eql 9 (.tmp 14) (.const (.string (bs []))) v_11 (.str (bs []))) h3) fun v_12 =>
obv (.of (fadR 4 v_0) h3) fun v_13 =>
obv (.of (ld1 h3 v_13) h3) fun v_14 =>
obv (.of (aUn P .not v_14) h3) fun v_15 =>
obv (.val v_6 h3) fun n_16 =>
obv (.val v_9 h3) fun x_17 =>
obv (.val v_12 h3) fun s_18 =>
obv (.val v_15 h3) fun b_19 =>
lt (sqK (J_precentorref1_RightValue_0 P call fuel k) k) fun k22 =>
arb (.of (fadR 0 v_0) h3) call fun v_23 h24 =>
arb (.of (ld1 h24 v_23) h24) call fun v_25 h26 =>
lt (blkK 0 k22) fun k27 =>
arb (.of (aBin P .eql 3 (.tmp 20) (.const (.int .i64 1)) v_25 (.int .i64 1)) h26) call fun v_28 h29 =>
arb (.val v_28 h29) call fun v_30 h31 =>
cb v_30 (
arb (.val x_17 h31) call fun v_32 h33 =>
arb (.val v_32 h33) call fun v_34 h35 =>
gd (wantB v_34 true) (fun c => arb (.val s_18 h35) call c) h35 fun v_36 h37 =>
arb (pkR v_34 v_36 (.bool false) h37) call fun v_38 h39 =>
arb (.val v_38 h39) call fun v_40 h41 =>
gd (wantB v_40 true) (fun c => arb (.val b_19 h41) call c) h41 fun v_42 h43 =>
arb (pkR v_40 v_42 (.bool false) h43) call fun v_44 h45 =>
arb (.val v_44 h45) call fun v_46 h47 =>
k27 .ret (upd (upd (upd (upd (upd (upd (upd (upd (upd (upd (upd (upd (upd (upd (upd (upd (upd (upd (upd (upd (upd (upd (upd (upd (upd (upd (upd (upd (upd (upd (enterT [v_a0]) 1 v_0) 2 v_2) 7 v_4) 8 v_5) 9 v_6) 10 v_7) 11 v_8) 12 v_9) 13 v_10) 14 v_11) 15 v_12) 16 v_13) 17 v_14) 18 v_15) 3 n_16) 4 x_17) 5 s_18) 6 b_19) 19 v_23) 20 v_25) 22 v_28) 21 v_30) 23 v_32) 24 v_34) 25 v_36) 26 v_38) 27 v_40) 28 v_42) 29 v_44) 2 v_46) h47) (
arb (.of (aBin P .eql 3 (.tmp 20) (.const (.int .i64 2)) v_25 (.int .i64 2)) h31) call fun v_48 h49 =>
arb (.val v_48 h49) call fun v_50 h51 =>
cb v_50 (
arb (.val n_16 h51) call fun v_52 h53 =>
arb (.val v_52 h53) call fun v_54 h55 =>
gd (wantB v_54 true) (fun c => arb (.val s_18 h55) call c) h55 fun v_56 h57 =>
arb (pkR v_54 v_56 (.bool false) h57) call fun v_58 h59 =>
arb (.val v_58 h59) call fun v_60 h61 =>
gd (wantB v_60 true) (fun c => arb (.val b_19 h61) call c) h61 fun v_62 h63 =>
arb (pkR v_60 v_62 (.bool false) h63) call fun v_64 h65 =>
arb (.val v_64 h65) call fun v_66 h67 =>
k27 .ret (upd (upd (upd (upd (upd (upd (upd (upd (upd (upd (upd (upd (upd (upd (upd (upd (upd (upd (upd (upd (upd (upd (upd (upd (upd (upd (upd (upd (upd (upd (upd (upd (enterT [v_a0]) 1 v_0) 2 v_2) 7 v_4) 8 v_5) 9 v_6) 10 v_7) 11 v_8) 12 v_9) 13 v_10) 14 v_11) 15 v_12) 16 v_13) 17 v_14) 18 v_15) 3 n_16) 4 x_17) 5 s_18) 6 b_19) 19 v_23) 20 v_25) 22 v_28) 21 v_30) 31 v_48) 30 v_50) 32 v_52) 33 v_54) 34 v_56) 35 v_58) 36 v_60) 37 v_62) 38 v_64) 2 v_66) h67) (
arb (.of (aBin P .eql 3 (.tmp 20) (.const (.int .i64 3)) v_25 (.int .i64 3)) h51) call fun v_68 h69 =>
arb (.val v_68 h69) call fun v_70 h71 =>
cb v_70 (
arb (.val n_16 h71) call fun v_72 h73 =>
arb (.val v_72 h73) call fun v_74 h75 =>
gd (wantB v_74 true) (fun c => arb (.val x_17 h75) call c) h75 fun v_76 h77 =>
arb (pkR v_74 v_76 (.bool false) h77) call fun v_78 h79 =>
arb (.val v_78 h79) call fun v_80 h81 =>
gd (wantB v_80 true) (fun c => arb (.val b_19 h81) call c) h81 fun v_82 h83 =>
arb (pkR v_80 v_82 (.bool false) h83) call fun v_84 h85 =>
arb (.val v_84 h85) call fun v_86 h87 =>
gd (wantB v_86 true) (fun c => arb (.of (fadR 3 v_0) h87) call c) h87 fun v_88 h89 =>
gd (wantB v_86 true) (fun c => arb (.of (ld1 h89 v_88) h89) call c) h89 fun v_90 h91 =>
gd (wantB v_86 true) (fun c => arb (.of (lenS v_90) h91) call c) h91 fun v_92 h93 =>
gd (wantB v_86 true) (fun c => arb (.of (aBin P .leq 3 (.tmp 51) (.const (.int .i64 12)) v_92 (.int .i64 12)) h93) call c) h93 fun v_94 h95 =>
arb (pkR v_86 v_94 (.bool false) h95) call fun v_96 h97 =>
arb (.val v_96 h97) call fun v_98 h99 =>
k27 .ret (upd (upd (upd (upd (upd (upd (upd (upd (upd (upd (upd (upd (upd (upd (upd (upd (upd (upd (upd (upd (upd (upd (upd (upd (upd (upd (upd (upd (upd (upd (upd (upd (upd (upd (upd (upd (upd (upd (upd (upd (enterT [v_a0]) 1 v_0) 2 v_2) 7 v_4) 8 v_5) 9 v_6) 10 v_7) 11 v_8) 12 v_9) 13 v_10) 14 v_11) 15 v_12) 16 v_13) 17 v_14) 18 v_15) 3 n_16) 4 x_17) 5 s_18) 6 b_19) 19 v_23) 20 v_25) 22 v_28) 21 v_30) 31 v_48) 30 v_50) 40 v_68) 39 v_70) 41 v_72) 42 v_74) 43 v_76) 44 v_78) 45 v_80) 46 v_82) 47 v_84) 48 v_86) 49 v_88) 50 v_90) 51 v_92) 52 v_94) 53 v_96) 2 v_98) h99) (
arb (.of (aBin P .eql 3 (.tmp 20) (.const (.int .i64 4)) v_25 (.int .i64 4)) h71) call fun v_100 h101 =>
arb (.val v_100 h101) call fun v_102 h103 =>
cb v_102 (
arb (.val n_16 h103) call fun v_104 h105 =>
arb (.val v_104 h105) call fun v_106 h107 =>
gd (wantB v_106 true) (fun c => arb (.val x_17 h107) call c) h107 fun v_108 h109 =>
arb (pkR v_106 v_108 (.bool false) h109) call fun v_110 h111 =>
arb (.val v_110 h111) call fun v_112 h113 =>
gd (wantB v_112 true) (fun c => arb (.val s_18 h113) call c) h113 fun v_114 h115 =>
arb (pkR v_112 v_114 (.bool false) h115) call fun v_116 h117 =>
arb (.val v_116 h117) call fun v_118 h119 =>
k27 .ret (upd (upd (upd (upd (upd (upd (upd (upd (upd (upd (upd (upd (upd (upd (upd (upd (upd (upd (upd (upd (upd (upd (upd (upd (upd (upd (upd (upd (upd (upd (upd (upd (upd (upd (upd (upd (enterT [v_a0]) 1 v_0) 2 v_2) 7 v_4) 8 v_5) 9 v_6) 10 v_7) 11 v_8) 12 v_9) 13 v_10) 14 v_11) 15 v_12) 16 v_13) 17 v_14) 18 v_15) 3 n_16) 4 x_17) 5 s_18) 6 b_19) 19 v_23) 20 v_25) 22 v_28) 21 v_30) 31 v_48) 30 v_50) 40 v_68) 39 v_70) 55 v_100) 54 v_102) 56 v_104) 57 v_106) 58 v_108) 59 v_110) 60 v_112) 61 v_114) 62 v_116) 2 v_118) h119) (
k27 .normal (upd (upd (upd (upd (upd (upd (upd (upd (upd (upd (upd (upd (upd (upd (upd (upd (upd (upd (upd (upd (upd (upd (upd (upd (upd (upd (upd (upd (enterT [v_a0]) 1 v_0) 2 v_2) 7 v_4) 8 v_5) 9 v_6) 10 v_7) 11 v_8) 12 v_9) 13 v_10) 14 v_11) 15 v_12) 16 v_13) 17 v_14) 18 v_15) 3 n_16) 4 x_17) 5 s_18) 6 b_19) 19 v_23) 20 v_25) 22 v_28) 21 v_30) 31 v_48) 30 v_50) 40 v_68) 39 v_70) 55 v_100) 54 v_102) h103))))
theorem E_precentorref1_RightValue (call : FuncId → List AVal → Heap → Res AVal) (fuel : Nat) (v_a0 : AVal) (h : Heap) : bodyR Try.prog call fuel Try.f21 [v_a0] h = S_precentorref1_RightValue Try.prog call fuel v_a0 h := by kernel_rfl
theorem R_precentorref1_RightValue {X : XTab} (v_a0 : AVal) {h : Heap} {Q : AVal → Heap → Prop} (hx : X F_precentorref1_RightValue [v_a0] = none) (q : Tells (fun m => S_precentorref1_RightValue Try.prog (acallX Try.prog X m) m v_a0 h) Q) :
    Tells (fun m => acallX Try.prog X m F_precentorref1_RightValue [v_a0] h) Q :=
  Tells.later (q.le fun m => (E_precentorref1_RightValue (acallX Try.prog X m) m v_a0 h) ▸ acallX_le Try.func21 hx m h)

/-! ### precentor/precentorref1.SameValue -/

def S_precentorref1_SameValue (P : Program) (call : FuncId → List AVal → Heap → Res AVal) (fuel : Nat) (a_a0 b_a1 : AVal) (h : Heap) : Res AVal :=
lt (retK P [.tmp 4]) fun k =>
arb (boxR a_a0 h) call fun a_0 h1 =>
arb (boxR b_a1 h1) call fun b_2 h3 =>
arb (.val (.bool false) h3) call fun v_4 h5 =>
obv (.of (fadR 0 a_0) h5) fun v_6 =>
obv (.of (ld1 h5 v_6) h5) fun v_8 => ifb true <|
obv (.of (fadR 0 b_2) h5) fun v_10 =>
obv (.of (ld1 h5 v_10) h5) fun v_12 => ifb true <|
obv (.of (aBin P .eql 3 (.tmp 6) (.tmp 8) v_8 v_12) h5) fun v_14 =>
obv (.val v_14 h5) fun v_16 =>
gdr (wantB v_16 true) (fun c => obv (.of (fadR 1 a_0) h5) fun v_18 =>
c true v_18 h5) h5 fun w20 v_18 h20 =>
gdr (wantB v_16 true) (fun c => obv (.of (ld1 h20 v_18) h20) fun v_21 => ifb true <|
c true v_21 h20) h20 fun w23 v_21 h23 =>
gdr (wantB v_16 true) (fun c => obv (.of (fadR 1 b_2) h23) fun v_24 =>
c true v_24 h23) h23 fun w26 v_24 h26 =>
gdr (wantB v_16 true) (fun c => obv (.of (ld1 h26 v_24) h26) fun v_27 => ifb true <|
c true v_27 h26) h26 fun w29 v_27 h29 =>
gdr (wantB v_16 true) (fun c => obv (.of (aBin P .eql 2 (.tmp 12) (.tmp 14) v_21 v_27) h29) fun v_30 =>
c true v_30 h29) h29 fun w32 v_30 h32 =>
obv (pkR v_16 v_30 (.bool false) h32) fun v_33 =>
obv (.val v_33 h32) fun v_35 =>
gdr (wantB v_35 true) (fun c => obv (.of (fadR 2 a_0) h32) fun v_37 =>
c true v_37 h32) h32 fun w39 v_37 h39 =>
gdr (wantB v_35 true) (fun c => obv (.of (ld1 h39 v_37) h39) fun v_40 => ifb true <|
c true v_40 h39) h39 fun w42 v_40 h42 =>
gdr (wantB v_35 true) (fun c => arbE (.call F_precentorref1_Bits [v_40] h42) call fun v_43 h44 => lt h44 fun g44 => ifb (true && true) <|
c true v_43 g44) h42 fun w45 v_43 h45 =>
gdr (wantB v_35 true) (fun c => obv (.of (fadR 2 b_2) h45) fun v_46 =>
c true v_46 h45) h45 fun w48 v_46 h48 =>
gdr (wantB v_35 true) (fun c => obv (.of (ld1 h48 v_46) h48) fun v_49 => ifb ((!w45 || isV v_49 (arVal (.of (ld1 h42 v_46) h42))) && true) <|
c true v_49 h48) h48 fun w51 v_49 h51 =>
gdr (wantB v_35 true) (fun c => arbE (.call F_precentorref1_Bits [v_49] h51) call fun v_52 h53 => lt h53 fun g53 => ifb (true && true) <|
c true v_52 g53) h51 fun w54 v_52 h54 =>
gdr (wantB v_35 true) (fun c => obv (.of (aBin P .eql 46 (.tmp 20) (.tmp 23) v_43 v_52) h54) fun v_55 =>
c true v_55 h54) h54 fun w57 v_55 h57 =>
obv (pkR v_35 v_55 (.bool false) h57) fun v_58 =>
obv (.val v_58 h57) fun v_60 =>
gdr (wantB v_60 true) (fun c => obv (.of (fadR 3 a_0) h57) fun v_62 =>
c true v_62 h57) h57 fun w64 v_62 h64 =>
gdr (wantB v_60 true) (fun c => obv (.of (ld1 h64 v_62) h64) fun v_65 => ifb true <|
c true v_65 h64) h64 fun w67 v_65 h67 =>
gdr (wantB v_60 true) (fun c => obv (.of (fadR 3 b_2) h67) fun v_68 =>
c true v_68 h67) h67 fun w70 v_68 h70 =>
gdr (wantB v_60 true) (fun c => obv (.of (ld1 h70 v_68) h70) fun v_71 => ifb true <|
c true v_71 h70) h70 fun w73 v_71 h73 =>
gdr (wantB v_60 true) (fun c => obv (.of (aBin P .eql 9 (.tmp 28) (.tmp 30) v_65 v_71) h73) fun v_74 =>
c true v_74 h73) h73 fun w76 v_74 h76 =>
obv (pkR v_60 v_74 (.bool false) h76) fun v_77 =>
obv (.val v_77 h76) fun v_79 =>
gdr (wantB v_79 true) (fun c => obv (.of (fadR 4 a_0) h76) fun v_81 =>
c true v_81 h76) h76 fun w83 v_81 h83 =>
gdr (wantB v_79 true) (fun c => obv (.of (ld1 h83 v_81) h83) fun v_84 => ifb true <|
c true v_84 h83) h83 fun w86 v_84 h86 =>
gdr (wantB v_79 true) (fun c => obv (.of (fadR 4 b_2) h86) fun v_87 =>
c true v_87 h86) h86 fun w89 v_87 h89 =>
gdr (wantB v_79 true) (fun c => obv (.of (ld1 h89 v_87) h89) fun v_90 => ifb true <|
c true v_90 h89) h89 fun w92 v_90 h92 =>
gdr (wantB v_79 true) (fun c => obv (.of (aBin P .eql 4 (.tmp 35) (.tmp 37) v_84 v_90) h92) fun v_93 =>
c true v_93 h92) h92 fun w95 v_93 h95 =>
obv (pkR v_79 v_93 (.bool false) h95) fun v_96 =>
obv (.val v_96 h95) fun v_98 =>
k .ret (upd (upd (upd (upd (upd (upd (upd (upd (upd (upd (upd (upd (upd (upd (upd (upd (upd (upd (upd (upd (upd (upd (upd (upd (upd (upd (upd (upd (upd (upd (upd (upd (upd (upd (upd (upd (upd (upd (upd (enterT [a_a0, b_a1]) 2 a_0) 3 b_2) 4 v_4) 5 v_6) 6 v_8) 7 v_10) 8 v_12) 9 v_14) 10 v_16) 11 v_18) 12 v_21) 13 v_24) 14 v_27) 15 v_30) 16 v_33) 17 v_35) 18 v_37) 19 v_40) 20 v_43) 21 v_46) 22 v_49) 23 v_52) 24 v_55) 25 v_58) 26 v_60) 27 v_62) 28 v_65) 29 v_68) 30 v_71) 31 v_74) 32 v_77) 33 v_79) 34 v_81) 35 v_84) 36 v_87) 37 v_90) 38 v_93) 39 v_96) 4 v_98) h95
theorem E_precentorref1_SameValue (call : FuncId → List AVal → Heap → Res AVal) (fuel : Nat) (a_a0 b_a1 : AVal) (h : Heap) : bodyR Try.prog call fuel Try.f22 [a_a0, b_a1] h = S_precentorref1_SameValue Try.prog call fuel a_a0 b_a1 h := by kernel_rfl
theorem R_precentorref1_SameValue {X : XTab} (a_a0 b_a1 : AVal) {h : Heap} {Q : AVal → Heap → Prop} (hx : X F_precentorref1_SameValue [a_a0, b_a1] = none) (q : Tells (fun m => S_precentorref1_SameValue Try.prog (acallX Try.prog X m) m a_a0 b_a1 h) Q) :
    Tells (fun m => acallX Try.prog X m F_precentorref1_SameValue [a_a0, b_a1] h) Q :=
  Tells.later (q.le fun m => (E_precentorref1_SameValue (acallX Try.prog X m) m a_a0 b_a1 h) ▸ acallX_le Try.func22 hx m h)

/-! ### precentor/precentorref1.Is -/

def S_precentorref1_Is (P : Program) (call : FuncId → List AVal → Heap → Res AVal) (fuel : Nat) (a_a0 b_a1 : AVal) (h : Heap) : Res AVal :=
lt (retK P [.tmp 4]) fun k =>
arb (boxR a_a0 h) call fun a_0 h1 =>
arb (boxR b_a1 h1) call fun b_2 h3 =>
arb (.val (.bool false) h3) call fun v_4 h5 =>
arb (.of (ldn 5 h5 a_0) h5) call fun v_6 h7 =>
arb (.of (ldn 5 h7 b_2) h7) call fun v_8 h9 =>
arb (.call F_precentorref1_CmpValue [v_6, v_8] h9) call fun v_10 h11 =>
arb (.val v_10 h11) call fun v_12 h13 =>
arb (extR v_12 0 h13) call fun v_14 h15 =>
arb (extR v_12 1 h15) call fun v_16 h17 =>
arb (.val v_14 h17) call fun c_18 h19 =>
arb (.val v_16 h19) call fun ok_20 h21 =>
arb (.val ok_20 h21) call fun v_22 h23 =>
arb (.val v_22 h23) call fun v_24 h25 =>
gd (wantB v_24 true) (fun c => arb (.val c_18 h25) call c) h25 fun v_26 h27 =>
gd (wantB v_24 true) (fun c => arb (.of (aBin P .eql 3 (.tmp 15) (.const (.int .i64 0)) v_26 (.int .i64 0)) h27) call c) h27 fun v_28 h29 =>
arb (pkR v_24 v_28 (.bool false) h29) call fun v_30 h31 =>
arb (.val v_30 h31) call fun v_32 h33 =>
k .ret (upd (upd (upd (upd (upd (upd (upd (upd (upd (upd (upd (upd (upd (upd (upd (upd (upd (enterT [a_a0, b_a1]) 2 a_0) 3 b_2) 4 v_4) 8 v_6) 9 v_8) 10 v_10) 7 v_12) 11 v_14) 12 v_16) 5 c_18) 6 ok_20) 13 v_22) 14 v_24) 15 v_26) 16 v_28) 17 v_30) 4 v_32) h33
theorem E_precentorref1_Is (call : FuncId → List AVal → Heap → Res AVal) (fuel : Nat) (a_a0 b_a1 : AVal) (h : Heap) : bodyR Try.prog call fuel Try.f23 [a_a0, b_a1] h = S_precentorref1_Is Try.prog call fuel a_a0 b_a1 h := by kernel_rfl
theorem R_precentorref1_Is {X : XTab} (a_a0 b_a1 : AVal) {h : Heap} {Q : AVal → Heap → Prop} (hx : X F_precentorref1_Is [a_a0, b_a1] = none) (q : Tells (fun m => S_precentorref1_Is Try.prog (acallX Try.prog X m) m a_a0 b_a1 h) Q) :
    Tells (fun m => acallX Try.prog X m F_precentorref1_Is [a_a0, b_a1] h) Q :=
  Tells.later (q.le fun m => (E_precentorref1_Is (acallX Try.prog X m) m a_a0 b_a1 h) ▸ acallX_le Try.func23 hx m h)

/-! ### precentor/precentorref1.CmpInt -/
def J_precentorref1_CmpInt_1 (P : Program) (call : FuncId → List AVal → Heap → Res AVal) (fuel : Nat) (k : Kn (AVal)) (t : T) (h : Heap) : Res (AVal) :=
arb (.val (.int .i64 0) h) call fun v_16 h17 =>
arb (.val (.bool true) h17) call fun v_18 h19 =>
k .ret (upd (upd t 4 v_16) 5 v_18) h19

def J_precentorref1_CmpInt_0 (P : Program) (call : FuncId → List AVal → Heap → Res AVal) (fuel : Nat) (k : Kn (AVal)) (t : T) (h : Heap) : Res (AVal) :=
arb (.val (t 1) h) call fun v_4 h5 =>
arb (.call F_math_Trunc [v_4] h5) call fun v_6 h7 =>
arb (.val v_6 h7) call fun t_8 h9 =>
arb (.val t_8 h9) call fun v_10 h11 =>
arb (aConv P h11 22 2 v_10) call fun v_12 h13 =>
arb (.val v_12 h13) call fun w_14 h15 =>
lt (sqK (J_precentorref1_CmpInt_1 P call fuel k) k) fun k20 =>
lt (blkK 1 k20) fun k21 =>
arb (.val (t 0) h15) call fun v_22 h23 =>
arb (.val w_14 h23) call fun v_24 h25 =>
arb (.of (aBin P .lss 2 (.tmp 23) (.tmp 24) v_22 v_24) h25) call fun v_26 h27 =>
arb (.val v_26 h27) call fun v_28 h29 =>
cb v_28 (
arb (.val (.int .i64 (-1)) h29) call fun v_30 h31 =>
arb (.val (.bool true) h31) call fun v_32 h33 =>
k21 .ret (upd (upd (upd (upd (upd (upd (upd (upd (upd (upd (upd (upd t 18 v_4) 19 v_6) 6 t_8) 20 v_10) 21 v_12) 7 w_14) 23 v_22) 24 v_24) 25 v_26) 22 v_28) 4 v_30) 5 v_32) h33) (
arb (.val (t 0) h29) call fun v_34 h35 =>
arb (.val w_14 h35) call fun v_36 h37 =>
arb (.of (aBin P .gtr 2 (.tmp 27) (.tmp 28) v_34 v_36) h37) call fun v_38 h39 =>
arb (.val v_38 h39) call fun v_40 h41 =>
cb v_40 (
arb (.val (.int .i64 1) h41) call fun v_42 h43 =>
arb (.val (.bool true) h43) call fun v_44 h45 =>
k21 .ret (upd (upd (upd (upd (upd (upd (upd (upd (upd (upd (upd (upd (upd (upd (upd (upd t 18 v_4) 19 v_6) 6 t_8) 20 v_10) 21 v_12) 7 w_14) 23 v_22) 24 v_24) 25 v_26) 22 v_28) 27 v_34) 28 v_36) 29 v_38) 26 v_40) 4 v_42) 5 v_44) h45) (
arb (.val t_8 h41) call fun v_46 h47 =>
arb (.val (t 1) h47) call fun v_48 h49 =>
arb (.of (aBin P .lss 22 (.tmp 31) (.tmp 32) v_46 v_48) h49) call fun v_50 h51 =>
arb (.val v_50 h51) call fun v_52 h53 =>
cb v_52 (
arb (.val (.int .i64 (-1)) h53) call fun v_54 h55 =>
arb (.val (.bool true) h55) call fun v_56 h57 =>
k21 .ret (upd (upd (upd (upd (upd (upd (upd (upd (upd (upd (upd (upd (upd (upd (upd (upd (upd (upd (upd (upd t 18 v_4) 19 v_6) 6 t_8) 20 v_10) 21 v_12) 7 w_14) 23 v_22) 24 v_24) 25 v_26) 22 v_28) 27 v_34) 28 v_36) 29 v_38) 26 v_40) 31 v_46) 32 v_48) 33 v_50) 30 v_52) 4 v_54) 5 v_56) h57) (
arb (.val t_8 h53) call fun v_58 h59 =>
arb (.val (t 1) h59) call fun v_60 h61 =>
arb (.of (aBin P .gtr 22 (.tmp 35) (.tmp 36) v_58 v_60) h61) call fun v_62 h63 =>
arb (.val v_62 h63) call fun v_64 h65 =>
cb v_64 (
arb (.val (.int .i64 1) h65) call fun v_66 h67 =>
arb (.val (.bool true) h67) call fun v_68 h69 =>
k21 .ret (upd (upd (upd (upd (upd (upd (upd (upd (upd (upd (upd (upd (upd (upd (upd (upd (upd (upd (upd (upd (upd (upd (upd (upd t 18 v_4) 19 v_6) 6 t_8) 20 v_10) 21 v_12) 7 w_14) 23 v_22) 24 v_24) 25 v_26) 22 v_28) 27 v_34) 28 v_36) 29 v_38) 26 v_40) 31 v_46) 32 v_48) 33 v_50) 30 v_52) 35 v_58) 36 v_60) 37 v_62) 34 v_64) 4 v_66) 5 v_68) h69) (
k21 .normal (upd (upd (upd (upd (upd (upd (upd (upd (upd (upd (upd (upd (upd (upd (upd (upd (upd (upd (upd (upd (upd (upd t 18 v_4) 19 v_6) 6 t_8) 20 v_10) 21 v_12) 7 w_14) 23 v_22) 24 v_24) 25 v_26) 22 v_28) 27 v_34) 28 v_36) 29 v_38) 26 v_40) 31 v_46) 32 v_48) 33 v_50) 30 v_52) 35 v_58) 36 v_60) 37 v_62) 34 v_64) h65))))

def S_precentorref1_CmpInt (P : Program) (call : FuncId → List AVal → Heap → Res AVal) (fuel : Nat) (n_a0 x_a1 : AVal) (h : Heap) : Res AVal :=
lt (retK P [.tmp 4, .tmp 5]) fun k =>
arb (.val (.int .i64 0) h) call fun v_0 h1 =>
arb (.val (.bool false) h1) call fun v_2 h3 =>
lt (sqK (J_precentorref1_CmpInt_0 P call fuel k) k) fun k70 =>
lt (blkK 0 k70) fun k71 =>
arb (.val x_a1 h3) call fun v_72 h73 =>
arb (.val x_a1 h73) call fun v_74 h75 =>
arb (.of (aBin P .neq 22 (.tmp 9) (.tmp 10) v_72 v_74) h75) call fun v_76 h77 =>
arb (.val v_76 h77) call fun v_78 h79 =>
cb v_78 (
arb (.val (.int .i64 0) h79) call fun v_80 h81 =>
arb (.val (.bool false) h81) call fun v_82 h83 =>
k71 .ret (upd (upd (upd (upd (upd (upd (upd (upd (enterT [n_a0, x_a1]) 4 v_0) 5 v_2) 9 v_72) 10 v_74) 11 v_76) 8 v_78) 4 v_80) 5 v_82) h83) (
arb (.val x_a1 h79) call fun v_84 h85 =>
arb (.of (aBin P .geq 22 (.tmp 13) (.const (.float .f64 4890909195324358656)) v_84 (.flt .f64 4890909195324358656)) h85) call fun v_86 h87 =>
arb (.val v_86 h87) call fun v_88 h89 =>
cb v_88 (
arb (.val (.int .i64 (-1)) h89) call fun v_90 h91 =>
arb (.val (.bool true) h91) call fun v_92 h93 =>
k71 .ret (upd (upd (upd (upd (upd (upd (upd (upd (upd (upd (upd (enterT [n_a0, x_a1]) 4 v_0) 5 v_2) 9 v_72) 10 v_74) 11 v_76) 8 v_78) 13 v_84) 14 v_86) 12 v_88) 4 v_90) 5 v_92) h93) (
arb (.val x_a1 h89) call fun v_94 h95 =>
arb (.of (aBin P .lss 22 (.tmp 16) (.const (.float .f64 14114281232179134464)) v_94 (.flt .f64 14114281232179134464)) h95) call fun v_96 h97 =>
arb (.val v_96 h97) call fun v_98 h99 =>
cb v_98 (
arb (.val (.int .i64 1) h99) call fun v_100 h101 =>
arb (.val (.bool true) h101) call fun v_102 h103 =>
k71 .ret (upd (upd (upd (upd (upd (upd (upd (upd (upd (upd (upd (upd (upd (upd (enterT [n_a0, x_a1]) 4 v_0) 5 v_2) 9 v_72) 10 v_74) 11 v_76) 8 v_78) 13 v_84) 14 v_86) 12 v_88) 16 v_94) 17 v_96) 15 v_98) 4 v_100) 5 v_102) h103) (
k71 .normal (upd (upd (upd (upd (upd (upd (upd (upd (upd (upd (upd (upd (enterT [n_a0, x_a1]) 4 v_0) 5 v_2) 9 v_72) 10 v_74) 11 v_76) 8 v_78) 13 v_84) 14 v_86) 12 v_88) 16 v_94) 17 v_96) 15 v_98) h99)))
theorem E_precentorref1_CmpInt (call : FuncId → List AVal → Heap → Res AVal) (fuel : Nat) (n_a0 x_a1 : AVal) (h : Heap) : bodyR Try.prog call fuel Try.f32 [n_a0, x_a1] h = S_precentorref1_CmpInt Try.prog call fuel n_a0 x_a1 h := by kernel_rfl
theorem R_precentorref1_CmpInt {X : XTab} (n_a0 x_a1 : AVal) {h : Heap} {Q : AVal → Heap → Prop} (hx : X F_precentorref1_CmpInt [n_a0, x_a1] = none) (q : Tells (fun m => S_precentorref1_CmpInt Try.prog (acallX Try.prog X m) m n_a0 x_a1 h) Q) :
    Tells (fun m => acallX Try.prog X m F_precentorref1_CmpInt [n_a0, x_a1] h) Q :=
  Tells.later (q.le fun m => (E_precentorref1_CmpInt (acallX Try.prog X m) m n_a0 x_a1 h) ▸ acallX_le Try.func32 hx m h)

/-! ### precentor/precentorref1.Cmp -/
def J_precentorref1_Cmp_0 (P : Program) (call : FuncId → List AVal → Heap → Res AVal) (fuel : Nat) (k : Kn (AVal)) (t : T) (h : Heap) : Res (AVal) :=
arb (.val (.int .i64 0) h) call fun v_4 h5 =>
arb (.val (.bool true) h5) call fun v_6 h7 =>
k .ret (upd (upd t 4 v_4) 5 v_6) h7

def S_precentorref1_Cmp (P : Program) (call : FuncId → List AVal → Heap → Res AVal) (fuel : Nat) (a_a0 b_a1 : AVal) (h : Heap) : Res AVal :=
lt (retK P [.tmp 4, .tmp 5]) fun k =>
arb (.val (.int .i64 0) h) call fun v_0 h1 =>
arb (.val (.bool false) h1) call fun v_2 h3 =>
lt (sqK (J_precentorref1_Cmp_0 P call fuel k) k) fun k8 =>
lt (blkK 0 k8) fun k9 =>
arb (.val a_a0 h3) call fun v_10 h11 =>
arb (.val a_a0 h11) call fun v_12 h13 =>
arb (.of (aBin P .neq 22 (.tmp 7) (.tmp 8) v_10 v_12) h13) call fun v_14 h15 =>
arb (.val v_14 h15) call fun v_16 h17 =>
gd (wantB v_16 false) (fun c => arb (.val b_a1 h17) call c) h17 fun v_18 h19 =>
gd (wantB v_16 false) (fun c => arb (.val b_a1 h19) call c) h19 fun v_20 h21 =>
gd (wantB v_16 false) (fun c => arb (.of (aBin P .neq 22 (.tmp 11) (.tmp 12) v_18 v_20) h21) call c) h21 fun v_22 h23 =>
arb (pkR v_16 (.bool true) v_22 h23) call fun v_24 h25 =>
arb (.val v_24 h25) call fun v_26 h27 =>
cb v_26 (
arb (.val (.int .i64 0) h27) call fun v_28 h29 =>
arb (.val (.bool false) h29) call fun v_30 h31 =>
k9 .ret (upd (upd (upd (upd (upd (upd (upd (upd (upd (upd (upd (upd (upd (enterT [a_a0, b_a1]) 4 v_0) 5 v_2) 7 v_10) 8 v_12) 9 v_14) 10 v_16) 11 v_18) 12 v_20) 13 v_22) 14 v_24) 6 v_26) 4 v_28) 5 v_30) h31) (
arb (.val a_a0 h27) call fun v_32 h33 =>
arb (.val b_a1 h33) call fun v_34 h35 =>
arb (.of (aBin P .lss 22 (.tmp 16) (.tmp 17) v_32 v_34) h35) call fun v_36 h37 =>
arb (.val v_36 h37) call fun v_38 h39 =>
cb v_38 (
arb (.val (.int .i64 (-1)) h39) call fun v_40 h41 =>
arb (.val (.bool true) h41) call fun v_42 h43 =>
k9 .ret (upd (upd (upd (upd (upd (upd (upd (upd (upd (upd (upd (upd (upd (upd (upd (upd (upd (enterT [a_a0, b_a1]) 4 v_0) 5 v_2) 7 v_10) 8 v_12) 9 v_14) 10 v_16) 11 v_18) 12 v_20) 13 v_22) 14 v_24) 6 v_26) 16 v_32) 17 v_34) 18 v_36) 15 v_38) 4 v_40) 5 v_42) h43) (
arb (.val a_a0 h39) call fun v_44 h45 =>
arb (.val b_a1 h45) call fun v_46 h47 =>
arb (.of (aBin P .gtr 22 (.tmp 20) (.tmp 21) v_44 v_46) h47) call fun v_48 h49 =>
arb (.val v_48 h49) call fun v_50 h51 =>
cb v_50 (
arb (.val (.int .i64 1) h51) call fun v_52 h53 =>
arb (.val (.bool true) h53) call fun v_54 h55 =>
k9 .ret (upd (upd (upd (upd (upd (upd (upd (upd (upd (upd (upd (upd (upd (upd (upd (upd (upd (upd (upd (upd (upd (enterT [a_a0, b_a1]) 4 v_0) 5 v_2) 7 v_10) 8 v_12) 9 v_14) 10 v_16) 11 v_18) 12 v_20) 13 v_22) 14 v_24) 6 v_26) 16 v_32) 17 v_34) 18 v_36) 15 v_38) 20 v_44) 21 v_46) 22 v_48) 19 v_50) 4 v_52) 5 v_54) h55) (
k9 .normal (upd (upd (upd (upd (upd (upd (upd (upd (upd (upd (upd (upd (upd (upd (upd (upd (upd (upd (upd (enterT [a_a0, b_a1]) 4 v_0) 5 v_2) 7 v_10) 8 v_12) 9 v_14) 10 v_16) 11 v_18) 12 v_20) 13 v_22) 14 v_24) 6 v_26) 16 v_32) 17 v_34) 18 v_36) 15 v_38) 20 v_44) 21 v_46) 22 v_48) 19 v_50) h51)))
theorem E_precentorref1_Cmp (call : FuncId → List AVal → Heap → Res AVal) (fuel : Nat) (a_a0 b_a1 : AVal) (h : Heap) : bodyR Try.prog call fuel Try.f33 [a_a0, b_a1] h = S_precentorref1_Cmp Try.prog call fuel a_a0 b_a1 h := by kernel_rfl
theorem R_precentorref1_Cmp {X : XTab} (a_a0 b_a1 : AVal) {h : Heap} {Q : AVal → Heap → Prop} (hx : X F_precentorref1_Cmp [a_a0, b_a1] = none) (q : Tells (fun m => S_precentorref1_Cmp Try.prog (acallX Try.prog X m) m a_a0 b_a1 h) Q) :
    Tells (fun m => acallX Try.prog X m F_precentorref1_Cmp [a_a0, b_a1] h) Q :=
  Tells.later (q.le fun m => (E_precentorref1_Cmp (acallX Try.prog X m) m a_a0 b_a1 h) ▸ acallX_le Try.func33 hx m h)

/-! ### precentor/precentorref1.Bits -/
def J_precentorref1_Bits_1 (P : Program) (call : FuncId → List AVal → Heap → Res AVal) (fuel : Nat) (k : Kn (AVal)) (t : T) (h : Heap) : Res (AVal) :=
arb (.val (t 0) h) call fun v_2 h3 =>
arb (.of (aNat P F_math_Float64bits [v_2]) h3) call fun v_4 h5 =>
arb (.val v_4 h5) call fun v_6 h7 =>
k .ret (upd (upd (upd t 8 v_2) 9 v_4) 2 v_6) h7

def J_precentorref1_Bits_0 (P : Program) (call : FuncId → List AVal → Heap → Res AVal) (fuel : Nat) (k : Kn (AVal)) (t : T) (h : Heap) : Res (AVal) :=
lt (sqK (J_precentorref1_Bits_1 P call fuel k) k) fun k8 =>
arb (.val (t 0) h) call fun v_9 h10 =>
arb (.of (aBin P .eql 22 (.tmp 6) (.const (.float .f64 0)) v_9 (.flt .f64 0)) h10) call fun v_11 h12 =>
cb v_11 (
arb (.val (.int .u64 0) h12) call fun v_13 h14 =>
k8 .ret (upd (upd (upd t 6 v_9) 7 v_11) 2 v_13) h14) (
k8 .normal (upd (upd t 6 v_9) 7 v_11) h12)

def S_precentorref1_Bits (P : Program) (call : FuncId → List AVal → Heap → Res AVal) (fuel : Nat) (x_a0 : AVal) (h : Heap) : Res AVal :=
lt (retK P [.tmp 2]) fun k =>
arb (.val (.int .u64 0) h) call fun v_0 h1 =>
lt (sqK (J_precentorref1_Bits_0 P call fuel k) k) fun k15 =>
arb (.val x_a0 h1) call fun v_16 h17 =>
arb (.val x_a0 h17) call fun v_18 h19 =>
arb (.of (aBin P .neq 22 (.tmp 3) (.tmp 4) v_16 v_18) h19) call fun v_20 h21 =>
cb v_20 (
arb (.val (.int .u64 9221120237041090560) h21) call fun v_22 h23 =>
k15 .ret (upd (upd (upd (upd (upd (enterT [x_a0]) 2 v_0) 3 v_16) 4 v_18) 5 v_20) 2 v_22) h23) (
k15 .normal (upd (upd (upd (upd (enterT [x_a0]) 2 v_0) 3 v_16) 4 v_18) 5 v_20) h21)
theorem E_precentorref1_Bits (call : FuncId → List AVal → Heap → Res AVal) (fuel : Nat) (x_a0 : AVal) (h : Heap) : bodyR Try.prog call fuel Try.f34 [x_a0] h = S_precentorref1_Bits Try.prog call fuel x_a0 h := by kernel_rfl
theorem R_precentorref1_Bits {X : XTab} (x_a0 : AVal) {h : Heap} {Q : AVal → Heap → Prop} (hx : X F_precentorref1_Bits [x_a0] = none) (q : Tells (fun m => S_precentorref1_Bits Try.prog (acallX Try.prog X m) m x_a0 h) Q) :
    Tells (fun m => acallX Try.prog X m F_precentorref1_Bits [x_a0] h) Q :=
  Tells.later (q.le fun m => (E_precentorref1_Bits (acallX Try.prog X m) m x_a0 h) ▸ acallX_le Try.func34 hx m h)


end Go.Proofs.Ytjoniicebjpdaaa
