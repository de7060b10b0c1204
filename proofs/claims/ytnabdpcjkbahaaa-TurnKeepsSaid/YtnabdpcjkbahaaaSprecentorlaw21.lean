/-
  Functions of precentorlaw21 in the form of YtnabdpcjkbahaaaABS (printed by a program of ours, gen.lean).
-/
import Derived.Test.YtnabdpcjkbahaaaSIds
set_option linter.unusedVariables false
namespace Go.Proofs.Ytnabdpcjkbahaaa
open Go.Ab
/-! ### precentor/precentorlaw21.TurnKeeps -/
def J_precentorlaw21_TurnKeeps_1 (P : Program) (call : FuncId → List AVal → Heap → Res AVal) (fuel : Nat) (k : Kn (AVal)) (t : T) (h : Heap) : Res (AVal) :=
arb (.val (.bool true) h) call fun v_28 h29 =>
k .ret (upd t 2 v_28) h29

def J_precentorlaw21_TurnKeeps_4 (P : Program) (call : FuncId → List AVal → Heap → Res AVal) (fuel : Nat) (k : Kn (Ex × T)) (t : T) (h : Heap) : Res (Ex × T) :=
arb (.val (t 9) h) call fun v_34 h35 =>
arb (.of (aBin P .add 3 (.tmp 35) (.const (.int .i64 1)) v_34 (.int .i64 1)) h35) call fun v_36 h37 =>
arb (.val v_36 h37) call fun i_38 h39 =>
k .normal (upd (upd (upd t 35 v_34) 36 v_36) 9 i_38) h39

def J_precentorlaw21_TurnKeeps_5 (P : Program) (call : FuncId → List AVal → Heap → Res AVal) (fuel : Nat) (k : Kn (Ex × T)) (t : T) (h : Heap) : Res (Ex × T) :=
arb (.val (t 4) h) call fun v_42 h43 =>
arb (.call F_turn_Turn_Pending [v_42] h43) call fun v_44 h45 =>
arb (.val (t 6) h45) call fun v_46 h47 =>
arb (.val (t 7) h47) call fun v_48 h49 =>
arb (.of (aBin P .sub 3 (.tmp 118) (.tmp 119) v_46 v_48) h49) call fun v_50 h51 =>
arb (.of (aBin P .neq 3 (.tmp 117) (.tmp 120) v_44 v_50) h51) call fun v_52 h53 =>
arb (.val v_52 h53) call fun v_54 h55 =>
gd (wantB v_54 false) (fun c => arb (.val (t 4) h55) call c) h55 fun v_56 h57 =>
gd (wantB v_54 false) (fun c => arb (.call F_turn_Turn_Epoch [v_56] h57) call c) h57 fun v_58 h59 =>
gd (wantB v_54 false) (fun c => arb (.val (t 8) h59) call c) h59 fun v_60 h61 =>
gd (wantB v_54 false) (fun c => arb (.of (aBin P .neq 3 (.tmp 124) (.tmp 125) v_58 v_60) h61) call c) h61 fun v_62 h63 =>
arb (pkR v_54 (.bool true) v_62 h63) call fun v_64 h65 =>
cb v_64 (
arb (.val (.bool false) h65) call fun v_66 h67 =>
k .ret (upd (upd (upd (upd (upd (upd (upd (upd (upd (upd (upd (upd (upd t 116 v_42) 117 v_44) 118 v_46) 119 v_48) 120 v_50) 121 v_52) 122 v_54) 123 v_56) 124 v_58) 125 v_60) 126 v_62) 127 v_64) 2 v_66) h67) (
k .normal (upd (upd (upd (upd (upd (upd (upd (upd (upd (upd (upd (upd t 116 v_42) 117 v_44) 118 v_46) 119 v_48) 120 v_50) 121 v_52) 122 v_54) 123 v_56) 124 v_58) 125 v_60) 126 v_62) 127 v_64) h65)

def J_precentorlaw21_TurnKeeps_9 (P : Program) (call : FuncId → List AVal → Heap → Res AVal) (fuel : Nat) (k : Kn (Ex × T)) (t : T) (h : Heap) : Res (Ex × T) :=
arb (.val (t 7) h) call fun v_178 h179 =>
arb (.val (t 6) h179) call fun v_180 h181 =>
arb (.of (aBin P .neq 3 (.tmp 80) (.tmp 81) v_178 v_180) h181) call fun v_182 h183 =>
cb v_182 (
arb (.val (.bool false) h183) call fun v_184 h185 =>
k .ret (upd (upd (upd (upd t 80 v_178) 81 v_180) 82 v_182) 2 v_184) h185) (
k .normal (upd (upd (upd t 80 v_178) 81 v_180) 82 v_182) h183)

def J_precentorlaw21_TurnKeeps_12 (P : Program) (call : FuncId → List AVal → Heap → Res AVal) (fuel : Nat) (k : Kn (Ex × T)) (t : T) (h : Heap) : Res (Ex × T) :=
arb (.val (t 15) h) call fun v_190 h191 =>
arb (.of (aBin P .add 3 (.tmp 68) (.const (.int .i64 1)) v_190 (.int .i64 1)) h191) call fun v_192 h193 =>
arb (.val v_192 h193) call fun k_194 h195 =>
k .normal (upd (upd (upd t 68 v_190) 69 v_192) 15 k_194) h195

def J_precentorlaw21_TurnKeeps_11 (P : Program) (call : FuncId → List AVal → Heap → Res AVal) (fuel : Nat) (k : Kn (Ex × T)) (t : T) (h : Heap) : Res (Ex × T) :=
lt (sqK (J_precentorlaw21_TurnKeeps_12 P call fuel k) k) fun k196 =>
lt (blkK 4 k196) fun k197 =>
arb (.val (t 7) h) call fun v_198 h199 =>
arb (.of (aBin P .add 3 (.tmp 70) (.const (.int .i64 1)) v_198 (.int .i64 1)) h199) call fun v_200 h201 =>
arb (.val v_200 h201) call fun out_202 h203 =>
arb (.val (t 13) h203) call fun v_204 h205 =>
arb (.val (t 15) h205) call fun v_206 h207 =>
arb (.of (ixsR 5 v_204 v_206) h207) call fun v_208 h209 =>
arb (.of (fadR 1 v_208) h209) call fun v_210 h211 =>
arb (.of (fadR 2 v_210) h211) call fun v_212 h213 =>
arb (.of (ld1 h213 v_212) h213) call fun v_214 h215 =>
arb (.val out_202 h215) call fun v_216 h217 =>
arb (.of (aBin P .neq 3 (.tmp 77) (.tmp 78) v_214 v_216) h217) call fun v_218 h219 =>
cb v_218 (
arb (.val (.bool false) h219) call fun v_220 h221 =>
k197 .ret (upd (upd (upd (upd (upd (upd (upd (upd (upd (upd (upd (upd t 70 v_198) 71 v_200) 7 out_202) 72 v_204) 73 v_206) 74 v_208) 75 v_210) 76 v_212) 77 v_214) 78 v_216) 79 v_218) 2 v_220) h221) (
k197 .normal (upd (upd (upd (upd (upd (upd (upd (upd (upd (upd (upd t 70 v_198) 71 v_200) 7 out_202) 72 v_204) 73 v_206) 74 v_208) 75 v_210) 76 v_212) 77 v_214) 78 v_216) 79 v_218) h219)

def L_precentorlaw21_TurnKeeps_10 (P : Program) (call : FuncId → List AVal → Heap → Res AVal) (fuel : Nat) (t : T) (h : Heap) : Res (Ex × T) :=
lt okK fun k =>
lt (sqK (J_precentorlaw21_TurnKeeps_11 P call fuel k) k) fun k222 =>
arb (.val (t 15) h) call fun v_223 h224 =>
arb (.val (t 13) h224) call fun v_225 h226 =>
arb (.of (lenL v_225) h226) call fun v_227 h228 =>
arb (.of (aBin P .lss 3 (.tmp 64) (.tmp 66) v_223 v_227) h228) call fun v_229 h230 =>
cb v_229 (
k222 .normal (upd (upd (upd (upd t 64 v_223) 65 v_225) 66 v_227) 67 v_229) h230) (
k222 (.exit 3) (upd (upd (upd (upd t 64 v_223) 65 v_225) 66 v_227) 67 v_229) h230)

def J_precentorlaw21_TurnKeeps_8 (P : Program) (call : FuncId → List AVal → Heap → Res AVal) (fuel : Nat) (k : Kn (Ex × T)) (t : T) (h : Heap) : Res (Ex × T) :=
arb (.val (t 8) h) call fun v_172 h173 =>
arb (.of (aBin P .add 3 (.tmp 62) (.const (.int .i64 1)) v_172 (.int .i64 1)) h173) call fun v_174 h175 =>
arb (.val v_174 h175) call fun epoch_176 h177 =>
lt (sqK (J_precentorlaw21_TurnKeeps_9 P call fuel k) k) fun k186 =>
arb (.val (.int .i64 0) h177) call fun k_187 h188 =>
lt (blkK 3 k186) fun k189 =>
(loopN (L_precentorlaw21_TurnKeeps_10 P call fuel) fuel (upd (upd (upd (upd t 62 v_172) 63 v_174) 8 epoch_176) 15 k_187) h188).bind (lpK k189)

def J_precentorlaw21_TurnKeeps_7 (P : Program) (call : FuncId → List AVal → Heap → Res AVal) (fuel : Nat) (k : Kn (Ex × T)) (t : T) (h : Heap) : Res (Ex × T) :=
lt (sqK (J_precentorlaw21_TurnKeeps_8 P call fuel k) k) fun k231 =>
arb (.val (t 14) h) call fun v_232 h233 =>
arb (.of (aUn P .not v_232) h233) call fun v_234 h235 =>
cb v_234 (
k231 (.exit 1) (upd (upd t 60 v_232) 61 v_234) h235) (
k231 .normal (upd (upd t 60 v_232) 61 v_234) h235)

def J_precentorlaw21_TurnKeeps_6 (P : Program) (call : FuncId → List AVal → Heap → Res AVal) (fuel : Nat) (k : Kn (Ex × T)) (t : T) (h : Heap) : Res (Ex × T) :=
cb (t 83) (
arb (.val (t 6) h) call fun v_74 h75 =>
arb (.of (aBin P .add 3 (.tmp 86) (.const (.int .i64 1)) v_74 (.int .i64 1)) h75) call fun v_76 h77 =>
arb (.val v_76 h77) call fun in_78 h79 =>
arb (.val (t 4) h79) call fun v_80 h81 =>
arb (.val in_78 h81) call fun v_82 h83 =>
arb (.of (bldR [(.int .i64 0), (.int .i64 0), (.int .i64 0), .nils] [(0, 1, (.int .i64 1)), (2, 1, v_82)]) h83) call fun v_84 h85 =>
arb (.of (bldR [(.bool false), (.int .i64 0), (.int .i64 0), (.int .i64 0), .nils] [(1, 4, v_84)]) h85) call fun v_86 h87 =>
arb (.call F_turn_Turn_Add [v_80, v_86] h87) call fun v_88 h89 =>
arb (.of (aUn P .not v_88) h89) call fun v_90 h91 =>
cb v_90 (
arb (.val (.bool false) h91) call fun v_92 h93 =>
k .ret (upd (upd (upd (upd (upd (upd (upd (upd (upd (upd t 86 v_74) 87 v_76) 6 in_78) 88 v_80) 89 v_82) 90 v_84) 91 v_86) 92 v_88) 93 v_90) 2 v_92) h93) (
k .normal (upd (upd (upd (upd (upd (upd (upd (upd (upd t 86 v_74) 87 v_76) 6 in_78) 88 v_80) 89 v_82) 90 v_84) 91 v_86) 92 v_88) 93 v_90) h91)) (
arb (.of (aBin P .eql 3 (.tmp 38) (.const (.int .i64 2)) (t 38) (.int .i64 2)) h) call fun v_94 h95 =>
arb (.val v_94 h95) call fun v_96 h97 =>
cb v_96 (
arb (.val (t 6) h97) call fun v_98 h99 =>
arb (.val (t 7) h99) call fun v_100 h101 =>
arb (.of (aBin P .gtr 3 (.tmp 96) (.tmp 97) v_98 v_100) h101) call fun v_102 h103 =>
arb (.val v_102 h103) call fun v_104 h105 =>
gd (wantB v_104 true) (fun c => arb (.val (t 4) h105) call c) h105 fun v_106 h107 =>
gd (wantB v_104 true) (fun c => arb (.call F_turn_Turn_Stopped [v_106] h107) call c) h107 fun v_108 h109 =>
gd (wantB v_104 true) (fun c => arb (.of (aUn P .not v_108) h109) call c) h109 fun v_110 h111 =>
arb (pkR v_104 v_110 (.bool false) h111) call fun v_112 h113 =>
arb (.val v_112 h113) call fun may_114 h115 =>
arb (.val (t 4) h115) call fun v_116 h117 =>
arb (.call F_turn_Turn_Begin [v_116] h117) call fun v_118 h119 =>
arb (.val may_114 h119) call fun v_120 h121 =>
arb (.of (aBin P .neq 4 (.tmp 105) (.tmp 106) v_118 v_120) h121) call fun v_122 h123 =>
arb (.val v_122 h123) call fun v_124 h125 =>
gd (wantB v_124 false) (fun c => arb (.val may_114 h125) call c) h125 fun v_126 h127 =>
gd (wantB v_124 false) (fun c => arb (.val v_126 h127) call c) h127 fun v_128 h129 =>
gd (wantB v_128 true) (fun c => arb (.val (t 4) h129) call c) h129 fun v_130 h131 =>
gd (wantB v_128 true) (fun c => arb (.call F_turn_Turn_Stopped [v_130] h131) call c) h131 fun v_132 h133 =>
gd (wantB v_128 true) (fun c => arb (.of (aUn P .not v_132) h133) call c) h133 fun v_134 h135 =>
gd (wantB v_124 false) (fun c => arb (pkR v_128 v_134 (.bool false) h135) call c) h135 fun v_136 h137 =>
arb (pkR v_124 (.bool true) v_136 h137) call fun v_138 h139 =>
cb v_138 (
arb (.val (.bool false) h139) call fun v_140 h141 =>
k .ret (upd (upd (upd (upd (upd (upd (upd (upd (upd (upd (upd (upd (upd (upd (upd (upd (upd (upd (upd (upd (upd (upd (upd (upd t 95 v_94) 94 v_96) 96 v_98) 97 v_100) 98 v_102) 99 v_104) 100 v_106) 101 v_108) 102 v_110) 103 v_112) 10 may_114) 104 v_116) 105 v_118) 106 v_120) 107 v_122) 108 v_124) 109 v_126) 110 v_128) 111 v_130) 112 v_132) 113 v_134) 114 v_136) 115 v_138) 2 v_140) h141) (
k .normal (upd (upd (upd (upd (upd (upd (upd (upd (upd (upd (upd (upd (upd (upd (upd (upd (upd (upd (upd (upd (upd (upd (upd t 95 v_94) 94 v_96) 96 v_98) 97 v_100) 98 v_102) 99 v_104) 100 v_106) 101 v_108) 102 v_110) 103 v_112) 10 may_114) 104 v_116) 105 v_118) 106 v_120) 107 v_122) 108 v_124) 109 v_126) 110 v_128) 111 v_130) 112 v_132) 113 v_134) 114 v_136) 115 v_138) h139)) (
arb (.val (t 4) h97) call fun v_142 h143 =>
arb (.call F_turn_Turn_Stopped [v_142] h143) call fun v_144 h145 =>
arb (.val v_144 h145) call fun stopped_146 h147 =>
arb (.val (t 4) h147) call fun v_148 h149 =>
arb (.call F_turn_Turn_Ready [v_148, (.bool false)] h149) call fun v_150 h151 =>
arb (.val v_150 h151) call fun ready_152 h153 =>
arb (.val (t 4) h153) call fun v_154 h155 =>
arb (.val (t 8) h155) call fun v_156 h157 =>
arb (.of (aBin P .add 3 (.tmp 45) (.const (.int .i64 1)) v_156 (.int .i64 1)) h157) call fun v_158 h159 =>
arb (.call F_turn_Turn_Open [v_154, v_158] h159) call fun v_160 h161 =>
arb (.val v_160 h161) call fun v_162 h163 =>
arb (extR v_162 0 h163) call fun v_164 h165 =>
arb (extR v_162 1 h165) call fun v_166 h167 =>
arb (.val v_164 h167) call fun x_168 h169 =>
arb (.val v_166 h169) call fun ok_170 h171 =>
lt (sqK (J_precentorlaw21_TurnKeeps_7 P call fuel k) k) fun k236 =>
arb (.val ok_170 h171) call fun v_237 h238 =>
arb (.val stopped_146 h238) call fun v_239 h240 =>
arb (.of (aBin P .neq 4 (.tmp 50) (.tmp 51) v_237 v_239) h240) call fun v_241 h242 =>
arb (.val v_241 h242) call fun v_243 h244 =>
gd (wantB v_243 false) (fun c => arb (.val ready_152 h244) call c) h244 fun v_245 h246 =>
gd (wantB v_243 false) (fun c => arb (.val v_245 h246) call c) h246 fun v_247 h248 =>
gd (wantB v_247 true) (fun c => arb (.val stopped_146 h248) call c) h248 fun v_249 h250 =>
gd (wantB v_247 true) (fun c => arb (.of (aUn P .not v_249) h250) call c) h250 fun v_251 h252 =>
gd (wantB v_243 false) (fun c => arb (pkR v_247 v_251 (.bool false) h252) call c) h252 fun v_253 h254 =>
arb (pkR v_243 (.bool true) v_253 h254) call fun v_255 h256 =>
cb v_255 (
arb (.val (.bool false) h256) call fun v_257 h258 =>
k236 .ret (upd (upd (upd (upd (upd (upd (upd (upd (upd (upd (upd (upd (upd (upd (upd (upd (upd (upd (upd (upd (upd (upd (upd (upd (upd (upd (upd (upd t 95 v_94) 94 v_96) 39 v_142) 40 v_144) 11 stopped_146) 41 v_148) 42 v_150) 12 ready_152) 44 v_154) 45 v_156) 46 v_158) 47 v_160) 43 v_162) 48 v_164) 49 v_166) 13 x_168) 14 ok_170) 50 v_237) 51 v_239) 52 v_241) 53 v_243) 54 v_245) 55 v_247) 56 v_249) 57 v_251) 58 v_253) 59 v_255) 2 v_257) h258) (
k236 .normal (upd (upd (upd (upd (upd (upd (upd (upd (upd (upd (upd (upd (upd (upd (upd (upd (upd (upd (upd (upd (upd (upd (upd (upd (upd (upd (upd t 95 v_94) 94 v_96) 39 v_142) 40 v_144) 11 stopped_146) 41 v_148) 42 v_150) 12 ready_152) 44 v_154) 45 v_156) 46 v_158) 47 v_160) 43 v_162) 48 v_164) 49 v_166) 13 x_168) 14 ok_170) 50 v_237) 51 v_239) 52 v_241) 53 v_243) 54 v_245) 55 v_247) 56 v_249) 57 v_251) 58 v_253) 59 v_255) h256)))

def J_precentorlaw21_TurnKeeps_3 (P : Program) (call : FuncId → List AVal → Heap → Res AVal) (fuel : Nat) (k : Kn (Ex × T)) (t : T) (h : Heap) : Res (Ex × T) :=
lt (sqK (J_precentorlaw21_TurnKeeps_4 P call fuel k) k) fun k40 =>
lt (blkK 1 k40) fun k41 =>
lt (sqK (J_precentorlaw21_TurnKeeps_5 P call fuel k41) k41) fun k68 =>
arb (.val (t 3) h) call fun v_69 h70 =>
arb (.call F_precentorhand_Feed_Next [v_69, (.int .i64 4)] h70) call fun v_71 h72 =>
lt (blkK 2 k68) fun k73 =>
lt (sqK (J_precentorlaw21_TurnKeeps_6 P call fuel k73) k73) fun k259 =>
arb (.of (aBin P .eql 3 (.tmp 38) (.const (.int .i64 0)) v_71 (.int .i64 0)) h72) call fun v_260 h261 =>
arb (.val v_260 h261) call fun v_262 h263 =>
cb v_262 (
k259 .normal (upd (upd (upd (upd t 37 v_69) 38 v_71) 84 v_260) 83 v_262) h263) (
arb (.of (aBin P .eql 3 (.tmp 38) (.const (.int .i64 1)) v_71 (.int .i64 1)) h263) call fun v_264 h265 =>
arb (.val v_264 h265) call fun v_266 h267 =>
k259 .normal (upd (upd (upd (upd (upd (upd t 37 v_69) 38 v_71) 84 v_260) 83 v_262) 85 v_264) 83 v_266) h267)

def L_precentorlaw21_TurnKeeps_2 (P : Program) (call : FuncId → List AVal → Heap → Res AVal) (fuel : Nat) (t : T) (h : Heap) : Res (Ex × T) :=
lt okK fun k =>
lt (sqK (J_precentorlaw21_TurnKeeps_3 P call fuel k) k) fun k268 =>
arb (.val (t 9) h) call fun v_269 h270 =>
arb (.of (aBin P .lss 3 (.tmp 33) (.const (.int .i64 40)) v_269 (.int .i64 40)) h270) call fun v_271 h272 =>
cb v_271 (
k268 .normal (upd (upd t 33 v_269) 34 v_271) h272) (
k268 (.exit 0) (upd (upd t 33 v_269) 34 v_271) h272)

def J_precentorlaw21_TurnKeeps_0 (P : Program) (call : FuncId → List AVal → Heap → Res AVal) (fuel : Nat) (k : Kn (AVal)) (t : T) (h : Heap) : Res (AVal) :=
arb (.val (.int .i64 0) h) call fun in_22 h23 =>
arb (.val (.int .i64 0) h23) call fun out_24 h25 =>
arb (.val (.int .i64 0) h25) call fun epoch_26 h27 =>
lt (sqK (J_precentorlaw21_TurnKeeps_1 P call fuel k) k) fun k30 =>
arb (.val (.int .i64 0) h27) call fun i_31 h32 =>
lt (blkK 0 k30) fun k33 =>
(loopN (L_precentorlaw21_TurnKeeps_2 P call fuel) fuel (upd (upd (upd (upd t 6 in_22) 7 out_24) 8 epoch_26) 9 i_31) h32).bind (lpK k33)

def S_precentorlaw21_TurnKeeps (P : Program) (call : FuncId → List AVal → Heap → Res AVal) (fuel : Nat) (l_a0 : AVal) (h : Heap) : Res AVal :=
lt (retK P [.tmp 2]) fun k =>
arb (.val (.bool false) h) call fun v_0 h1 =>
arb (.val l_a0 h1) call fun v_2 h3 =>
arb (.of (bldR [.nils, (.int .i64 0)] [(0, 1, v_2)]) h3) call fun v_4 h5 =>
arb (boxR v_4 h5) call fun v_6 h7 =>
arb (.val v_6 h7) call fun f_8 h9 =>
arb (.call F_turn_New [.nils, (.int .i64 0)] h9) call fun v_10 h11 =>
arb (.val v_10 h11) call fun v_12 h13 =>
arb (extR v_12 0 h13) call fun v_14 h15 =>
arb (extR v_12 1 h15) call fun v_16 h17 =>
arb (.val v_14 h17) call fun t_18 h19 =>
arb (.val v_16 h19) call fun e_20 h21 =>
lt (sqK (J_precentorlaw21_TurnKeeps_0 P call fuel k) k) fun k273 =>
arb (.call F_precentorlaw21_known [] h21) call fun v_274 h275 =>
arb (.of (aUn P .not v_274) h275) call fun v_276 h277 =>
arb (.val v_276 h277) call fun v_278 h279 =>
gd (wantB v_278 false) (fun c => arb (.val e_20 h279) call c) h279 fun v_280 h281 =>
gd (wantB v_278 false) (fun c => arb (.of (aBin P .neq 27 (.tmp 26) (.const (.int .i64 0)) v_280 (.int .i64 0)) h281) call c) h281 fun v_282 h283 =>
arb (pkR v_278 (.bool true) v_282 h283) call fun v_284 h285 =>
arb (.val v_284 h285) call fun v_286 h287 =>
gd (wantB v_286 false) (fun c => arb (.val t_18 h287) call c) h287 fun v_288 h289 =>
gd (wantB v_286 false) (fun c => arb (.of (aBin P .eql 26 (.tmp 30) (.const (.pointer none)) v_288 .nilp) h289) call c) h289 fun v_290 h291 =>
arb (pkR v_286 (.bool true) v_290 h291) call fun v_292 h293 =>
cb v_292 (
arb (.val (.bool false) h293) call fun v_294 h295 =>
k273 .ret (upd (upd (upd (upd (upd (upd (upd (upd (upd (upd (upd (upd (upd (upd (upd (upd (upd (upd (upd (upd (upd (upd (enterT [l_a0]) 2 v_0) 16 v_2) 17 v_4) 18 v_6) 3 f_8) 20 v_10) 19 v_12) 21 v_14) 22 v_16) 4 t_18) 5 e_20) 23 v_274) 24 v_276) 25 v_278) 26 v_280) 27 v_282) 28 v_284) 29 v_286) 30 v_288) 31 v_290) 32 v_292) 2 v_294) h295) (
k273 .normal (upd (upd (upd (upd (upd (upd (upd (upd (upd (upd (upd (upd (upd (upd (upd (upd (upd (upd (upd (upd (upd (enterT [l_a0]) 2 v_0) 16 v_2) 17 v_4) 18 v_6) 3 f_8) 20 v_10) 19 v_12) 21 v_14) 22 v_16) 4 t_18) 5 e_20) 23 v_274) 24 v_276) 25 v_278) 26 v_280) 27 v_282) 28 v_284) 29 v_286) 30 v_288) 31 v_290) 32 v_292) h293)
theorem E_precentorlaw21_TurnKeeps (call : FuncId → List AVal → Heap → Res AVal) (fuel : Nat) (l_a0 : AVal) (h : Heap) : bodyR Try.prog call fuel Try.f3 [l_a0] h = S_precentorlaw21_TurnKeeps Try.prog call fuel l_a0 h := by kernel_rfl
theorem R_precentorlaw21_TurnKeeps {X : XTab} (l_a0 : AVal) {h : Heap} {Q : AVal → Heap → Prop} (hx : X F_precentorlaw21_TurnKeeps [l_a0] = none) (q : Tells (fun m => S_precentorlaw21_TurnKeeps Try.prog (acallX Try.prog X m) m l_a0 h) Q) :
    Tells (fun m => acallX Try.prog X m F_precentorlaw21_TurnKeeps [l_a0] h) Q :=
  Tells.later (q.le fun m => (E_precentorlaw21_TurnKeeps (acallX Try.prog X m) m l_a0 h) ▸ acallX_le Try.func3 hx m h)

/-! ### precentor/precentorlaw21.known -/

def S_precentorlaw21_known (P : Program) (call : FuncId → List AVal → Heap → Res AVal) (fuel : Nat) (h : Heap) : Res AVal :=
lt (retK P [.tmp 0]) fun k =>
arb (.val (.bool false) h) call fun v_0 h1 =>
arb (.call F_precentorlaw21_TurnKnown [] h1) call fun v_2 h3 =>
arb (.val v_2 h3) call fun v_4 h5 =>
k .ret (upd (upd (upd (enterT []) 0 v_0) 1 v_2) 0 v_4) h5
theorem E_precentorlaw21_known (call : FuncId → List AVal → Heap → Res AVal) (fuel : Nat) (h : Heap) : bodyR Try.prog call fuel Try.f5 [] h = S_precentorlaw21_known Try.prog call fuel  h := by kernel_rfl
theorem R_precentorlaw21_known {X : XTab} {h : Heap} {Q : AVal → Heap → Prop} (hx : X F_precentorlaw21_known [] = none) (q : Tells (fun m => S_precentorlaw21_known Try.prog (acallX Try.prog X m) m  h) Q) :
    Tells (fun m => acallX Try.prog X m F_precentorlaw21_known [] h) Q :=
  Tells.later (q.le fun m => (E_precentorlaw21_known (acallX Try.prog X m) m  h) ▸ acallX_le Try.func5 hx m h)


end Go.Proofs.Ytnabdpcjkbahaaa
