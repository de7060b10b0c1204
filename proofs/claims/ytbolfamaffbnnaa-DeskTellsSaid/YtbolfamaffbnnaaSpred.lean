/-
  Functions of pred in the form of YtbolfamaffbnnaaABS (printed by a program of ours, gen.lean).
-/
import Derived.Test.YtbolfamaffbnnaaSIds
set_option linter.unusedVariables false
namespace Go.Proofs.Ytbolfamaffbnnaa
open Go.Ab
/-! ### precentor/pred.Right -/
def J_pred_Right_1 (P : Program) (call : FuncId → List AVal → Heap → Res AVal) (fuel : Nat) (k : Kn (AVal)) (t : T) (h : Heap) : Res (AVal) :=
arb (.val (.bool false) h) call fun v_4 h5 =>
k .ret (upd t 2 v_4) h5

def J_pred_Right_2 (P : Program) (call : FuncId → List AVal → Heap → Res AVal) (fuel : Nat) (k : Kn (AVal)) (t : T) (h : Heap) : Res (AVal) :=
cb (t 25) (
arb (.of (fadR 2 (t 1)) h) call fun v_46 h47 =>
arb (.of (ldn 5 h47 v_46) h47) call fun v_48 h49 =>
arb (.call F_value_Right [v_48] h49) call fun v_50 h51 =>
arb (.val v_50 h51) call fun v_52 h53 =>
gd (wantB v_52 true) (fun c => arb (.of (fadR 7 (t 1)) h53) call c) h53 fun v_54 h55 =>
gd (wantB v_52 true) (fun c => arb (.of (ldn 5 h55 v_54) h55) call c) h55 fun v_56 h57 =>
gd (wantB v_52 true) (fun c => arb (.call F_pred_zero [v_56] h57) call c) h57 fun v_58 h59 =>
arb (pkR v_52 v_58 (.bool false) h59) call fun v_60 h61 =>
arb (.val v_60 h61) call fun v_62 h63 =>
gd (wantB v_62 true) (fun c => arb (.of (fadR 12 (t 1)) h63) call c) h63 fun v_64 h65 =>
gd (wantB v_62 true) (fun c => arb (.of (ld1 h65 v_64) h65) call c) h65 fun v_66 h67 =>
gd (wantB v_62 true) (fun c => arb (.of (lenL v_66) h67) call c) h67 fun v_68 h69 =>
gd (wantB v_62 true) (fun c => arb (.of (aBin P .eql 3 (.tmp 43) (.const (.int .i64 0)) v_68 (.int .i64 0)) h69) call c) h69 fun v_70 h71 =>
arb (pkR v_62 v_70 (.bool false) h71) call fun v_72 h73 =>
arb (.val v_72 h73) call fun v_74 h75 =>
k .ret (upd (upd (upd (upd (upd (upd (upd (upd (upd (upd (upd (upd (upd (upd (upd t 32 v_46) 33 v_48) 34 v_50) 35 v_52) 36 v_54) 37 v_56) 38 v_58) 39 v_60) 40 v_62) 41 v_64) 42 v_66) 43 v_68) 44 v_70) 45 v_72) 2 v_74) h75) (
arb (.of (aBin P .eql 3 (.tmp 8) (.const (.int .i64 8)) (t 8) (.int .i64 8)) h) call fun v_76 h77 =>
arb (.val v_76 h77) call fun v_78 h79 =>
cb v_78 (
arb (.of (fadR 2 (t 1)) h79) call fun v_80 h81 =>
arb (.of (ldn 5 h81 v_80) h81) call fun v_82 h83 =>
arb (.call F_value_Right [v_82] h83) call fun v_84 h85 =>
arb (.val v_84 h85) call fun v_86 h87 =>
gd (wantB v_86 true) (fun c => arb (.of (fadR 7 (t 1)) h87) call c) h87 fun v_88 h89 =>
gd (wantB v_86 true) (fun c => arb (.of (ldn 5 h89 v_88) h89) call c) h89 fun v_90 h91 =>
gd (wantB v_86 true) (fun c => arb (.call F_value_Right [v_90] h91) call c) h91 fun v_92 h93 =>
arb (pkR v_86 v_92 (.bool false) h93) call fun v_94 h95 =>
arb (.val v_94 h95) call fun v_96 h97 =>
gd (wantB v_96 true) (fun c => arb (.of (fadR 12 (t 1)) h97) call c) h97 fun v_98 h99 =>
gd (wantB v_96 true) (fun c => arb (.of (ld1 h99 v_98) h99) call c) h99 fun v_100 h101 =>
gd (wantB v_96 true) (fun c => arb (.of (lenL v_100) h101) call c) h101 fun v_102 h103 =>
gd (wantB v_96 true) (fun c => arb (.of (aBin P .eql 3 (.tmp 59) (.const (.int .i64 0)) v_102 (.int .i64 0)) h103) call c) h103 fun v_104 h105 =>
arb (pkR v_96 v_104 (.bool false) h105) call fun v_106 h107 =>
arb (.val v_106 h107) call fun v_108 h109 =>
k .ret (upd (upd (upd (upd (upd (upd (upd (upd (upd (upd (upd (upd (upd (upd (upd (upd (upd t 47 v_76) 46 v_78) 48 v_80) 49 v_82) 50 v_84) 51 v_86) 52 v_88) 53 v_90) 54 v_92) 55 v_94) 56 v_96) 57 v_98) 58 v_100) 59 v_102) 60 v_104) 61 v_106) 2 v_108) h109) (
arb (.of (aBin P .eql 3 (.tmp 8) (.const (.int .i64 9)) (t 8) (.int .i64 9)) h79) call fun v_110 h111 =>
arb (.val v_110 h111) call fun v_112 h113 =>
cb v_112 (
arb (.of (fadR 2 (t 1)) h113) call fun v_114 h115 =>
arb (.of (ldn 5 h115 v_114) h115) call fun v_116 h117 =>
arb (.call F_value_Right [v_116] h117) call fun v_118 h119 =>
arb (.val v_118 h119) call fun v_120 h121 =>
gd (wantB v_120 true) (fun c => arb (.of (fadR 2 (t 1)) h121) call c) h121 fun v_122 h123 =>
gd (wantB v_120 true) (fun c => arb (.of (fadR 0 v_122) h123) call c) h123 fun v_124 h125 =>
gd (wantB v_120 true) (fun c => arb (.of (ld1 h125 v_124) h125) call c) h125 fun v_126 h127 =>
gd (wantB v_120 true) (fun c => arb (.of (aBin P .eql 3 (.tmp 70) (.const (.int .i64 3)) v_126 (.int .i64 3)) h127) call c) h127 fun v_128 h129 =>
arb (pkR v_120 v_128 (.bool false) h129) call fun v_130 h131 =>
arb (.val v_130 h131) call fun v_132 h133 =>
gd (wantB v_132 true) (fun c => arb (.of (fadR 7 (t 1)) h133) call c) h133 fun v_134 h135 =>
gd (wantB v_132 true) (fun c => arb (.of (ldn 5 h135 v_134) h135) call c) h135 fun v_136 h137 =>
gd (wantB v_132 true) (fun c => arb (.call F_pred_zero [v_136] h137) call c) h137 fun v_138 h139 =>
arb (pkR v_132 v_138 (.bool false) h139) call fun v_140 h141 =>
arb (.val v_140 h141) call fun v_142 h143 =>
gd (wantB v_142 true) (fun c => arb (.of (fadR 12 (t 1)) h143) call c) h143 fun v_144 h145 =>
gd (wantB v_142 true) (fun c => arb (.of (ld1 h145 v_144) h145) call c) h145 fun v_146 h147 =>
gd (wantB v_142 true) (fun c => arb (.of (lenL v_146) h147) call c) h147 fun v_148 h149 =>
gd (wantB v_142 true) (fun c => arb (.of (aBin P .eql 3 (.tmp 81) (.const (.int .i64 0)) v_148 (.int .i64 0)) h149) call c) h149 fun v_150 h151 =>
arb (pkR v_142 v_150 (.bool false) h151) call fun v_152 h153 =>
arb (.val v_152 h153) call fun v_154 h155 =>
k .ret (upd (upd (upd (upd (upd (upd (upd (upd (upd (upd (upd (upd (upd (upd (upd (upd (upd (upd (upd (upd (upd (upd (upd (upd (upd t 47 v_76) 46 v_78) 63 v_110) 62 v_112) 64 v_114) 65 v_116) 66 v_118) 67 v_120) 68 v_122) 69 v_124) 70 v_126) 71 v_128) 72 v_130) 73 v_132) 74 v_134) 75 v_136) 76 v_138) 77 v_140) 78 v_142) 79 v_144) 80 v_146) 81 v_148) 82 v_150) 83 v_152) 2 v_154) h155) (
arb (.of (aBin P .eql 3 (.tmp 8) (.const (.int .i64 10)) (t 8) (.int .i64 10)) h113) call fun v_156 h157 =>
arb (.val v_156 h157) call fun v_158 h159 =>
cb v_158 (
arb (.of (fadR 2 (t 1)) h159) call fun v_160 h161 =>
arb (.of (ldn 5 h161 v_160) h161) call fun v_162 h163 =>
arb (.call F_pred_zero [v_162] h163) call fun v_164 h165 =>
arb (.val v_164 h165) call fun v_166 h167 =>
gd (wantB v_166 true) (fun c => arb (.of (fadR 7 (t 1)) h167) call c) h167 fun v_168 h169 =>
gd (wantB v_166 true) (fun c => arb (.of (ldn 5 h169 v_168) h169) call c) h169 fun v_170 h171 =>
gd (wantB v_166 true) (fun c => arb (.call F_pred_zero [v_170] h171) call c) h171 fun v_172 h173 =>
arb (pkR v_166 v_172 (.bool false) h173) call fun v_174 h175 =>
arb (.val v_174 h175) call fun v_176 h177 =>
gd (wantB v_176 true) (fun c => arb (.of (fadR 12 (t 1)) h177) call c) h177 fun v_178 h179 =>
gd (wantB v_176 true) (fun c => arb (.of (ld1 h179 v_178) h179) call c) h179 fun v_180 h181 =>
gd (wantB v_176 true) (fun c => arb (.of (lenL v_180) h181) call c) h181 fun v_182 h183 =>
gd (wantB v_176 true) (fun c => arb (.of (aBin P .geq 3 (.tmp 97) (.const (.int .i64 1)) v_182 (.int .i64 1)) h183) call c) h183 fun v_184 h185 =>
arb (pkR v_176 v_184 (.bool false) h185) call fun v_186 h187 =>
arb (.val v_186 h187) call fun v_188 h189 =>
gd (wantB v_188 true) (fun c => arb (.of (fadR 12 (t 1)) h189) call c) h189 fun v_190 h191 =>
gd (wantB v_188 true) (fun c => arb (.of (ld1 h191 v_190) h191) call c) h191 fun v_192 h193 =>
gd (wantB v_188 true) (fun c => arb (.of (lenL v_192) h193) call c) h193 fun v_194 h195 =>
gd (wantB v_188 true) (fun c => arb (.of (aBin P .leq 3 (.tmp 103) (.const (.int .i64 4)) v_194 (.int .i64 4)) h195) call c) h195 fun v_196 h197 =>
arb (pkR v_188 v_196 (.bool false) h197) call fun v_198 h199 =>
arb (.val v_198 h199) call fun v_200 h201 =>
gd (wantB v_200 true) (fun c => arb (.of (fadR 12 (t 1)) h201) call c) h201 fun v_202 h203 =>
gd (wantB v_200 true) (fun c => arb (.of (ld1 h203 v_202) h203) call c) h203 fun v_204 h205 =>
gd (wantB v_200 true) (fun c => arb (.call F_pred_values [v_204] h205) call c) h205 fun v_206 h207 =>
arb (pkR v_200 v_206 (.bool false) h207) call fun v_208 h209 =>
arb (.val v_208 h209) call fun v_210 h211 =>
k .ret (upd (upd (upd (upd (upd (upd (upd (upd (upd (upd (upd (upd (upd (upd (upd (upd (upd (upd (upd (upd (upd (upd (upd (upd (upd (upd (upd (upd (upd (upd (upd (upd t 47 v_76) 46 v_78) 63 v_110) 62 v_112) 85 v_156) 84 v_158) 86 v_160) 87 v_162) 88 v_164) 89 v_166) 90 v_168) 91 v_170) 92 v_172) 93 v_174) 94 v_176) 95 v_178) 96 v_180) 97 v_182) 98 v_184) 99 v_186) 100 v_188) 101 v_190) 102 v_192) 103 v_194) 104 v_196) 105 v_198) 106 v_200) 107 v_202) 108 v_204) 109 v_206) 110 v_208) 2 v_210) h211) (
k .normal (upd (upd (upd (upd (upd (upd t 47 v_76) 46 v_78) 63 v_110) 62 v_112) 85 v_156) 84 v_158) h159))))

def J_pred_Right_0 (P : Program) (call : FuncId → List AVal → Heap → Res AVal) (fuel : Nat) (k : Kn (AVal)) (t : T) (h : Heap) : Res (AVal) :=
lt (sqK (J_pred_Right_1 P call fuel k) k) fun k6 =>
arb (.of (fadR 1 (t 1)) h) call fun v_7 h8 =>
arb (.of (ld1 h8 v_7) h8) call fun v_9 h10 =>
lt (blkK 0 k6) fun k11 =>
arb (.of (aBin P .eql 3 (.tmp 8) (.const (.int .i64 1)) v_9 (.int .i64 1)) h10) call fun v_12 h13 =>
arb (.val v_12 h13) call fun v_14 h15 =>
cb v_14 (
arb (.of (fadR 2 (t 1)) h15) call fun v_16 h17 =>
arb (.of (ldn 5 h17 v_16) h17) call fun v_18 h19 =>
arb (.call F_pred_zero [v_18] h19) call fun v_20 h21 =>
arb (.val v_20 h21) call fun v_22 h23 =>
gd (wantB v_22 true) (fun c => arb (.of (fadR 7 (t 1)) h23) call c) h23 fun v_24 h25 =>
gd (wantB v_22 true) (fun c => arb (.of (ldn 5 h25 v_24) h25) call c) h25 fun v_26 h27 =>
gd (wantB v_22 true) (fun c => arb (.call F_pred_zero [v_26] h27) call c) h27 fun v_28 h29 =>
arb (pkR v_22 v_28 (.bool false) h29) call fun v_30 h31 =>
arb (.val v_30 h31) call fun v_32 h33 =>
gd (wantB v_32 true) (fun c => arb (.of (fadR 12 (t 1)) h33) call c) h33 fun v_34 h35 =>
gd (wantB v_32 true) (fun c => arb (.of (ld1 h35 v_34) h35) call c) h35 fun v_36 h37 =>
gd (wantB v_32 true) (fun c => arb (.of (lenL v_36) h37) call c) h37 fun v_38 h39 =>
gd (wantB v_32 true) (fun c => arb (.of (aBin P .eql 3 (.tmp 22) (.const (.int .i64 0)) v_38 (.int .i64 0)) h39) call c) h39 fun v_40 h41 =>
arb (pkR v_32 v_40 (.bool false) h41) call fun v_42 h43 =>
arb (.val v_42 h43) call fun v_44 h45 =>
k11 .ret (upd (upd (upd (upd (upd (upd (upd (upd (upd (upd (upd (upd (upd (upd (upd (upd (upd (upd (upd t 7 v_7) 8 v_9) 10 v_12) 9 v_14) 11 v_16) 12 v_18) 13 v_20) 14 v_22) 15 v_24) 16 v_26) 17 v_28) 18 v_30) 19 v_32) 20 v_34) 21 v_36) 22 v_38) 23 v_40) 24 v_42) 2 v_44) h45) (
lt (sqK (J_pred_Right_2 P call fuel k11) k11) fun k212 =>
arb (.of (aBin P .eql 3 (.tmp 8) (.const (.int .i64 2)) v_9 (.int .i64 2)) h15) call fun v_213 h214 =>
arb (.val v_213 h214) call fun v_215 h216 =>
cb v_215 (
k212 .normal (upd (upd (upd (upd (upd (upd t 7 v_7) 8 v_9) 10 v_12) 9 v_14) 26 v_213) 25 v_215) h216) (
arb (.of (aBin P .eql 3 (.tmp 8) (.const (.int .i64 3)) v_9 (.int .i64 3)) h216) call fun v_217 h218 =>
arb (.val v_217 h218) call fun v_219 h220 =>
cb v_219 (
k212 .normal (upd (upd (upd (upd (upd (upd (upd (upd t 7 v_7) 8 v_9) 10 v_12) 9 v_14) 26 v_213) 25 v_215) 27 v_217) 25 v_219) h220) (
arb (.of (aBin P .eql 3 (.tmp 8) (.const (.int .i64 4)) v_9 (.int .i64 4)) h220) call fun v_221 h222 =>
arb (.val v_221 h222) call fun v_223 h224 =>
cb v_223 (
k212 .normal (upd (upd (upd (upd (upd (upd (upd (upd (upd (upd t 7 v_7) 8 v_9) 10 v_12) 9 v_14) 26 v_213) 25 v_215) 27 v_217) 25 v_219) 28 v_221) 25 v_223) h224) (
arb (.of (aBin P .eql 3 (.tmp 8) (.const (.int .i64 5)) v_9 (.int .i64 5)) h224) call fun v_225 h226 =>
arb (.val v_225 h226) call fun v_227 h228 =>
cb v_227 (
k212 .normal (upd (upd (upd (upd (upd (upd (upd (upd (upd (upd (upd (upd t 7 v_7) 8 v_9) 10 v_12) 9 v_14) 26 v_213) 25 v_215) 27 v_217) 25 v_219) 28 v_221) 25 v_223) 29 v_225) 25 v_227) h228) (
arb (.of (aBin P .eql 3 (.tmp 8) (.const (.int .i64 6)) v_9 (.int .i64 6)) h228) call fun v_229 h230 =>
arb (.val v_229 h230) call fun v_231 h232 =>
cb v_231 (
k212 .normal (upd (upd (upd (upd (upd (upd (upd (upd (upd (upd (upd (upd (upd (upd t 7 v_7) 8 v_9) 10 v_12) 9 v_14) 26 v_213) 25 v_215) 27 v_217) 25 v_219) 28 v_221) 25 v_223) 29 v_225) 25 v_227) 30 v_229) 25 v_231) h232) (
arb (.of (aBin P .eql 3 (.tmp 8) (.const (.int .i64 7)) v_9 (.int .i64 7)) h232) call fun v_233 h234 =>
arb (.val v_233 h234) call fun v_235 h236 =>
k212 .normal (upd (upd (upd (upd (upd (upd (upd (upd (upd (upd (upd (upd (upd (upd (upd (upd t 7 v_7) 8 v_9) 10 v_12) 9 v_14) 26 v_213) 25 v_215) 27 v_217) 25 v_219) 28 v_221) 25 v_223) 29 v_225) 25 v_227) 30 v_229) 25 v_231) 31 v_233) 25 v_235) h236))))))

def S_pred_Right (P : Program) (call : FuncId → List AVal → Heap → Res AVal) (fuel : Nat) (p_a0 : AVal) (h : Heap) : Res AVal :=
lt (retK P [.tmp 2]) fun k =>
arb (boxR p_a0 h) call fun p_0 h1 =>
arb (.val (.bool false) h1) call fun v_2 h3 =>
lt (sqK (J_pred_Right_0 P call fuel k) k) fun k237 =>
arb (.of (fadR 0 p_0) h3) call fun v_238 h239 =>
arb (.of (ld1 h239 v_238) h239) call fun v_240 h241 =>
arb (.call F_attr_Word [v_240] h241) call fun v_242 h243 =>
arb (.of (aUn P .not v_242) h243) call fun v_244 h245 =>
cb v_244 (
arb (.val (.bool false) h245) call fun v_246 h247 =>
k237 .ret (upd (upd (upd (upd (upd (upd (upd (enterT [p_a0]) 1 p_0) 2 v_2) 3 v_238) 4 v_240) 5 v_242) 6 v_244) 2 v_246) h247) (
k237 .normal (upd (upd (upd (upd (upd (upd (enterT [p_a0]) 1 p_0) 2 v_2) 3 v_238) 4 v_240) 5 v_242) 6 v_244) h245)
theorem E_pred_Right (call : FuncId → List AVal → Heap → Res AVal) (fuel : Nat) (p_a0 : AVal) (h : Heap) : bodyR Try.prog call fuel Try.f47 [p_a0] h = S_pred_Right Try.prog call fuel p_a0 h := by kernel_rfl
theorem R_pred_Right {X : XTab} (p_a0 : AVal) {h : Heap} {Q : AVal → Heap → Prop} (hx : X F_pred_Right [p_a0] = none) (q : Tells (fun m => S_pred_Right Try.prog (acallX Try.prog X m) m p_a0 h) Q) :
    Tells (fun m => acallX Try.prog X m F_pred_Right [p_a0] h) Q :=
  Tells.later (q.le fun m => (E_pred_Right (acallX Try.prog X m) m p_a0 h) ▸ acallX_le Try.func47 hx m h)

/-! ### precentor/pred.zero -/

def S_pred_zero (P : Program) (call : FuncId → List AVal → Heap → Res AVal) (fuel : Nat) (v_a0 : AVal) (h : Heap) : Res AVal :=
lt (retK P [.tmp 2]) fun k =>
arb (boxR v_a0 h) call fun v_0 h1 =>
arb (.val (.bool false) h1) call fun v_2 h3 =>
arb (.of (ldn 5 h3 v_0) h3) call fun v_4 h5 =>
arb (.of (bldR [(.int .i64 0), (.int .i64 0), (.flt .f64 0), (.str (bs [])), (.bool false)] []) h5) call fun v_6 h7 =>
arb (.call F_value_Same [v_4, v_6] h7) call fun v_8 h9 =>
arb (.val v_8 h9) call fun v_10 h11 =>
k .ret (upd (upd (upd (upd (upd (upd (enterT [v_a0]) 1 v_0) 2 v_2) 3 v_4) 4 v_6) 5 v_8) 2 v_10) h11
theorem E_pred_zero (call : FuncId → List AVal → Heap → Res AVal) (fuel : Nat) (v_a0 : AVal) (h : Heap) : bodyR Try.prog call fuel Try.f55 [v_a0] h = S_pred_zero Try.prog call fuel v_a0 h := by kernel_rfl
theorem R_pred_zero {X : XTab} (v_a0 : AVal) {h : Heap} {Q : AVal → Heap → Prop} (hx : X F_pred_zero [v_a0] = none) (q : Tells (fun m => S_pred_zero Try.prog (acallX Try.prog X m) m v_a0 h) Q) :
    Tells (fun m => acallX Try.prog X m F_pred_zero [v_a0] h) Q :=
  Tells.later (q.le fun m => (E_pred_zero (acallX Try.prog X m) m v_a0 h) ▸ acallX_le Try.func55 hx m h)

/-! ### precentor/pred.values -/
def J_pred_values_0 (P : Program) (call : FuncId → List AVal → Heap → Res AVal) (fuel : Nat) (k : Kn (AVal)) (t : T) (h : Heap) : Res (AVal) :=
arb (.val (.bool true) h) call fun v_2 h3 =>
k .ret (upd t 2 v_2) h3

def J_pred_values_3 (P : Program) (call : FuncId → List AVal → Heap → Res AVal) (fuel : Nat) (k : Kn (Ex × T)) (t : T) (h : Heap) : Res (Ex × T) :=
arb (.of (aBin P .add 3 (.tmp 7) (.const (.int .i64 1)) (t 7) (.int .i64 1)) h) call fun v_14 h15 =>
arb (.val v_14 h15) call fun v_16 h17 =>
k .normal (upd (upd t 14 v_14) 7 v_16) h17

def J_pred_values_2 (P : Program) (call : FuncId → List AVal → Heap → Res AVal) (fuel : Nat) (k : Kn (Ex × T)) (t : T) (h : Heap) : Res (Ex × T) :=
lt (sqK (J_pred_values_3 P call fuel k) k) fun k18 =>
lt (blkK 1 k18) fun k19 =>
arb (.of (ixsR 5 (t 5) (t 7)) h) call fun v_20 h21 =>
arb (.of (ldn 5 h21 v_20) h21) call fun v_22 h23 =>
arb (newR [(.int .i64 0), (.int .i64 0), (.flt .f64 0), (.str (bs [])), (.bool false)] h23) call fun v_24 h25 =>
arb (stR 5 h25 v_24 v_22) call fun v_26 h27 =>
arb (.of (ldn 5 h27 v_24) h27) call fun v_28 h29 =>
arb (.call F_value_Right [v_28] h29) call fun v_30 h31 =>
arb (.of (aUn P .not v_30) h31) call fun v_32 h33 =>
cb v_32 (
arb (.val (.bool false) h33) call fun v_34 h35 =>
k19 .ret (upd (upd (upd (upd (upd (upd (upd t 9 v_20) 10 v_22) 4 v_24) 11 v_28) 12 v_30) 13 v_32) 2 v_34) h35) (
k19 .normal (upd (upd (upd (upd (upd (upd t 9 v_20) 10 v_22) 4 v_24) 11 v_28) 12 v_30) 13 v_32) h33)

def L_pred_values_1 (P : Program) (call : FuncId → List AVal → Heap → Res AVal) (fuel : Nat) (t : T) (h : Heap) : Res (Ex × T) :=
lt okK fun k =>
arb (.of (aBin P .lss 3 (.tmp 7) (.tmp 6) (t 7) (t 6)) h) call fun v_12 h13 =>
lt (sqK (J_pred_values_2 P call fuel k) k) fun k36 =>
cb v_12 (
k36 .normal (upd t 8 v_12) h13) (
k36 (.exit 0) (upd t 8 v_12) h13)

def S_pred_values (P : Program) (call : FuncId → List AVal → Heap → Res AVal) (fuel : Nat) (l_a0 : AVal) (h : Heap) : Res AVal :=
lt (retK P [.tmp 2]) fun k =>
arb (.val (.bool false) h) call fun v_0 h1 =>
lt (sqK (J_pred_values_0 P call fuel k) k) fun k4 =>
arb (.val l_a0 h1) call fun v_5 h6 =>
arb (.of (lenL v_5) h6) call fun v_7 h8 =>
arb (.val (.int .i64 0) h8) call fun v_9 h10 =>
lt (blkK 0 k4) fun k11 =>
(loopN (L_pred_values_1 P call fuel) fuel (upd (upd (upd (upd (enterT [l_a0]) 2 v_0) 5 v_5) 6 v_7) 7 v_9) h10).bind (lpK k11)
theorem E_pred_values (call : FuncId → List AVal → Heap → Res AVal) (fuel : Nat) (l_a0 : AVal) (h : Heap) : bodyR Try.prog call fuel Try.f57 [l_a0] h = S_pred_values Try.prog call fuel l_a0 h := by kernel_rfl
theorem R_pred_values {X : XTab} (l_a0 : AVal) {h : Heap} {Q : AVal → Heap → Prop} (hx : X F_pred_values [l_a0] = none) (q : Tells (fun m => S_pred_values Try.prog (acallX Try.prog X m) m l_a0 h) Q) :
    Tells (fun m => acallX Try.prog X m F_pred_values [l_a0] h) Q :=
  Tells.later (q.le fun m => (E_pred_values (acallX Try.prog X m) m l_a0 h) ▸ acallX_le Try.func57 hx m h)


end Go.Proofs.Ytbolfamaffbnnaa
