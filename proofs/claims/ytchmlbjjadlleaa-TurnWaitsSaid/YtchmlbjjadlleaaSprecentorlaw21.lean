/-
  Functions of precentorlaw21 in the form of YtchmlbjjadlleaaABS (printed by a program of ours, gen.lean).
-/
import Derived.Test.YtchmlbjjadlleaaSIds
set_option linter.unusedVariables false
namespace Go.Proofs.Ytchmlbjjadlleaa
open Go.Ab
/-! ### precentor/precentorlaw21.TurnKeeps -/
def J_precentorlaw21_TurnKeeps_1 (P : Program) (call : FuncId → List AVal → Heap → Res AVal) (fuel : Nat) (k : Kn (AVal)) (t : T) (h : Heap) : Res (AVal) :=
arb (.val (.bool true) h) call fun v_28 h29 =>
k .ret (upd t 2 v_28) h29

def J_precentorlaw21_TurnKeeps_4 (P : Program) (call : FuncId → List AVal → Heap → Res AVal) (fuel : Nat) (k : Kn (Ex × T)) (t : T) (h : Heap) : Res (Ex × T) :=
arb (.val (t 9) h) call fun v_34 h35 =>
arb (.of (aBin P .add 3 (.tmp 35) (.const (.int .i64 1)) v_34 (.int .i64 1)) h35) call fun v_36 h37 =>
arb (.val v_36 h37) call fun i_38 h39 =>
k .normal (upd (upd (upd t 35 v_34) 36 v_36) 9 i_38) h39

def J_precentorlaw21_TurnKeeps_5 (P : Program) (call : FuncId → List AVal → Heap → Res AVal) (fuel : Nat) (k : Kn (Ex × T)) (t : T) (h : Heap) : Res (Ex × T) :=
arb (.val (t 4) h) call fun v_42 h43 =>
arb (.call F_turn_Turn_Pending [v_42] h43) call fun v_44 h45 =>
arb (.val (t 6) h45) call fun v_46 h47 =>
arb (.val (t 7) h47) call fun v_48 h49 =>
arb (.of (aBin P .sub 3 (.tmp 118) (.tmp 119) v_46 v_48) h49) call fun v_50 h51 =>
arb (.of (aBin P .neq 3 (.tmp 117) (.tmp 120) v_44 v_50) h51) call fun v_52 h53 =>
arb (.val v_52 h53) call fun v_54 h55 =>
gd (wantB v_54 false) (fun c => arb (.val (t 4) h55) call c) h55 fun v_56 h57 =>
gd (wantB v_54 false) (fun c => arb (.call F_turn_Turn_Epoch [v_56] h57) call c) h57 fun v_58 h59 =>
gd (wantB v_54 false) (fun c => arb (.val (t 8) h59) call c) h59 fun v_60 h61 =>
gd (wantB v_54 false) (fun c => arb (.of (aBin P .neq 3 (.tmp 124) (.tmp 125) v_58 v_60) h61) call c) h61 fun v_62 h63 =>
arb (pkR v_54 (.bool true) v_62 h63) call fun v_64 h65 =>
cb v_64 (
arb (.val (.bool false) h65) call fun v_66 h67 =>
k .ret (upd (upd (upd (upd (upd (upd (upd (upd (upd (upd (upd (upd (upd t 116 v_42) 117 v_44) 118 v_46) 119 v_48) 120 v_50) 121 v_52) 122 v_54) 123 v_56) 124 v_58) 125 v_60) 126 v_62) 127 v_64) 2 v_66) h67) (
k .normal (upd (upd (upd (upd (upd (upd (upd (upd (upd (upd (upd (upd t 116 v_42) 117 v_44) 118 v_46) 119 v_48) 120 v_50) 121 v_52) 122 v_54) 123 v_56) 124 v_58) 125 v_60) 126 v_62) 127 v_64) h65)

def J_precentorlaw21_TurnKeeps_9 (P : Program) (call : FuncId → List AVal → Heap → Res AVal) (fuel : Nat) (k : Kn (Ex × T)) (t : T) (h : Heap) : Res (Ex × T) :=
arb (.val (t 7) h) call fun v_178 h179 =>
arb (.val (t 6) h179) call fun v_180 h181 =>
arb (.of (aBin P .neq 3 (.tmp 80) (.tmp 81) v_178 v_180) h181) call fun v_182 h183 =>
cb v_182 (
arb (.val (.bool false) h183) call fun v_184 h185 =>
k .ret (upd (upd (upd (upd t 80 v_178) 81 v_180) 82 v_182) 2 v_184) h185) (
k .normal (upd (upd (upd t 80 v_178) 81 v_180) 82 v_182) h183)

def J_precentorlaw21_TurnKeeps_12 (P : Program) (call : FuncId → List AVal → Heap → Res AVal) (fuel : Nat) (k : Kn (Ex × T)) (t : T) (h : Heap) : Res (Ex × T) :=
arb (.val (t 15) h) call fun v_190 h191 =>
arb (.of (aBin P .add 3 (.tmp 68) (.const (.int .i64 1)) v_190 (.int .i64 1)) h191) call fun v_192 h193 =>
arb (.val v_192 h193) call fun k_194 h195 =>
k .normal (upd (upd (upd t 68 v_190) 69 v_192) 15 k_194) h195

def J_precentorlaw21_TurnKeeps_11 (P : Program) (call : FuncId → List AVal → Heap → Res AVal) (fuel : Nat) (k : Kn (Ex × T)) (t : T) (h : Heap) : Res (Ex × T) :=
lt (sqK (J_precentorlaw21_TurnKeeps_12 P call fuel k) k) fun k196 =>
lt (blkK 4 k196) fun k197 =>
arb (.val (t 7) h) call fun v_198 h199 =>
arb (.of (aBin P .add 3 (.tmp 70) (.const (.int .i64 1)) v_198 (.int .i64 1)) h199) call fun v_200 h201 =>
arb (.val v_200 h201) call fun out_202 h203 =>
arb (.val (t 13) h203) call fun v_204 h205 =>
arb (.val (t 15) h205) call fun v_206 h207 =>
arb (.of (ixsR 5 v_204 v_206) h207) call fun v_208 h209 =>
arb (.of (fadR 1 v_208) h209) call fun v_210 h211 =>
arb (.of (fadR 2 v_210) h211) call fun v_212 h213 =>
arb (.of (ld1 h213 v_212) h213) call fun v_214 h215 =>
arb (.val out_202 h215) call fun v_216 h217 =>
arb (.of (aBin P .neq 3 (.tmp 77) (.tmp 78) v_214 v_216) h217) call fun v_218 h219 =>
cb v_218 (
arb (.val (.bool false) h219) call fun v_220 h221 =>
k197 .ret (upd (upd (upd (upd (upd (upd (upd (upd (upd (upd (upd (upd t 70 v_198) 71 v_200) 7 out_202) 72 v_204) 73 v_206) 74 v_208) 75 v_210) 76 v_212) 77 v_214) 78 v_216) 79 v_218) 2 v_220) h221) (
k197 .normal (upd (upd (upd (upd (upd (upd (upd (upd (upd (upd (upd t 70 v_198) 71 v_200) 7 out_202) 72 v_204) 73 v_206) 74 v_208) 75 v_210) 76 v_212) 77 v_214) 78 v_216) 79 v_218) h219)

def L_precentorlaw21_TurnKeeps_10 (P : Program) (call : FuncId → List AVal → Heap → Res AVal) (fuel : Nat) (t : T) (h : Heap) : Res (Ex × T) :=
lt okK fun k =>
lt (sqK (J_precentorlaw21_TurnKeeps_11 P call fuel k) k) fun k222 =>
arb (.val (t 15) h) call fun v_223 h224 =>
arb (.val (t 13) h224) call fun v_225 h226 =>
arb (.of (lenL v_225) h226) call fun v_227 h228 =>
arb (.of (aBin P .lss 3 (.tmp 64) (.tmp 66) v_223 v_227) h228) call fun v_229 h230 =>
cb v_229 (
k222 .normal (upd (upd (upd (upd t 64 v_223) 65 v_225) 66 v_227) 67 v_229) h230) (
k222 (.exit 3) (upd (upd (upd (upd t 64 v_223) 65 v_225) 66 v_227) 67 v_229) h230)

def J_precentorlaw21_TurnKeeps_8 (P : Program) (call : FuncId → List AVal → Heap → Res AVal) (fuel : Nat) (k : Kn (Ex × T)) (t : T) (h : Heap) : Res (Ex × T) :=
arb (.val (t 8) h) call fun v_172 h173 =>
arb (.of (aBin P .add 3 (.tmp 62) (.const (.int .i64 1)) v_172 (.int .i64 1)) h173) call fun v_174 h175 =>
arb (.val v_174 h175) call fun epoch_176 h177 =>
lt (sqK (J_precentorlaw21_TurnKeeps_9 P call fuel k) k) fun k186 =>
arb (.val (.int .i64 0) h177) call fun k_187 h188 =>
lt (blkK 3 k186) fun k189 =>
(loopN (L_precentorlaw21_TurnKeeps_10 P call fuel) fuel (upd (upd (upd (upd t 62 v_172) 63 v_174) 8 epoch_176) 15 k_187) h188).bind (lpK k189)

def J_precentorlaw21_TurnKeeps_7 (P : Program) (call : FuncId → List AVal → Heap → Res AVal) (fuel : Nat) (k : Kn (Ex × T)) (t : T) (h : Heap) : Res (Ex × T) :=
lt (sqK (J_precentorlaw21_TurnKeeps_8 P call fuel k) k) fun k231 =>
arb (.val (t 14) h) call fun v_232 h233 =>
arb (.of (aUn P .not v_232) h233) call fun v_234 h235 =>
cb v_234 (
k231 (.exit 1) (upd (upd t 60 v_232) 61 v_234) h235) (
k231 .normal (upd (upd t 60 v_232) 61 v_234) h235)

def J_precentorlaw21_TurnKeeps_6 (P : Program) (call : FuncId → List AVal → Heap → Res AVal) (fuel : Nat) (k : Kn (Ex × T)) (t : T) (h : Heap) : Res (Ex × T) :=
cb (t 83) (
arb (.val (t 6) h) call fun v_74 h75 =>
arb (.of (aBin P .add 3 (.tmp 86) (.const (.int .i64 1)) v_74 (.int .i64 1)) h75) call fun v_76 h77 =>
arb (.val v_76 h77) call fun in_78 h79 =>
arb (.val (t 4) h79) call fun v_80 h81 =>
arb (.val in_78 h81) call fun v_82 h83 =>
arb (.of (bldR [(.int .i64 0), (.int .i64 0), (.int .i64 0), .nils] [(0, 1, (.int .i64 1)), (2, 1, v_82)]) h83) call fun v_84 h85 =>
arb (.of (bldR [(.bool false), (.int .i64 0), (.int .i64 0), (.int .i64 0), .nils] [(1, 4, v_84)]) h85) call fun v_86 h87 =>
arb (.call F_turn_Turn_Add [v_80, v_86] h87) call fun v_88 h89 =>
arb (.of (aUn P .not v_88) h89) call fun v_90 h91 =>
cb v_90 (
arb (.val (.bool false) h91) call fun v_92 h93 =>
k .ret (upd (upd (upd (upd (upd (upd (upd (upd (upd (upd t 86 v_74) 87 v_76) 6 in_78) 88 v_80) 89 v_82) 90 v_84) 91 v_86) 92 v_88) 93 v_90) 2 v_92) h93) (
k .normal (upd (upd (upd (upd (upd (upd (upd (upd (upd t 86 v_74) 87 v_76) 6 in_78) 88 v_80) 89 v_82) 90 v_84) 91 v_86) 92 v_88) 93 v_90) h91)) (
arb (.of (aBin P .eql 3 (.tmp 38) (.const (.int .i64 2)) (t 38) (.int .i64 2)) h) call fun v_94 h95 =>
arb (.val v_94 h95) call fun v_96 h97 =>
cb v_96 (
arb (.val (t 6) h97) call fun v_98 h99 =>
arb (.val (t 7) h99) call fun v_100 h101 =>
arb (.of (aBin P .gtr 3 (.tmp 96) (.tmp 97) v_98 v_100) h101) call fun v_102 h103 =>
arb (.val v_102 h103) call fun v_104 h105 =>
gd (wantB v_104 true) (fun c => arb (.val (t 4) h105) call c) h105 fun v_106 h107 =>
gd (wantB v_104 true) (fun c => arb (.call F_turn_Turn_Stopped [v_106] h107) call c) h107 fun v_108 h109 =>
gd (wantB v_104 true) (fun c => arb (.of (aUn P .not v_108) h109) call c) h109 fun v_110 h111 =>
arb (pkR v_104 v_110 (.bool false) h111) call fun v_112 h113 =>
arb (.val v_112 h113) call fun may_114 h115 =>
arb (.val (t 4) h115) call fun v_116 h117 =>
arb (.call F_turn_Turn_Begin [v_116] h117) call fun v_118 h119 =>
arb (.val may_114 h119) call fun v_120 h121 =>
arb (.of (aBin P .neq 4 (.tmp 105) (.tmp 106) v_118 v_120) h121) call fun v_122 h123 =>
arb (.val v_122 h123) call fun v_124 h125 =>
gd (wantB v_124 false) (fun c => arb (.val may_114 h125) call c) h125 fun v_126 h127 =>
gd (wantB v_124 false) (fun c => arb (.val v_126 h127) call c) h127 fun v_128 h129 =>
gd (wantB v_128 true) (fun c => arb (.val (t 4) h129) call c) h129 fun v_130 h131 =>
gd (wantB v_128 true) (fun c => arb (.call F_turn_Turn_Stopped [v_130] h131) call c) h131 fun v_132 h133 =>
gd (wantB v_128 true) (fun c => arb (.of (aUn P .not v_132) h133) call c) h133 fun v_134 h135 =>
gd (wantB v_124 false) (fun c => arb (pkR v_128 v_134 (.bool false) h135) call c) h135 fun v_136 h137 =>
arb (pkR v_124 (.bool true) v_136 h137) call fun v_138 h139 =>
cb v_138 (
arb (.val (.bool false) h139) call fun v_140 h141 =>
k .ret (upd (upd (upd (upd (upd (upd (upd (upd (upd (upd (upd (upd (upd (upd (upd (upd (upd (upd (upd (upd (upd (upd (upd (upd t 95 v_94) 94 v_96) 96 v_98) 97 v_100) 98 v_102) 99 v_104) 100 v_106) 101 v_108) 102 v_110) 103 v_112) 10 may_114) 104 v_116) 105 v_118) 106 v_120) 107 v_122) 108 v_124) 109 v_126) 110 v_128) 111 v_130) 112 v_132) 113 v_134) 114 v_136) 115 v_138) 2 v_140) h141) (
k .normal (upd (upd (upd (upd (upd (upd (upd (upd (upd (upd (upd (upd (upd (upd (upd (upd (upd (upd (upd (upd (upd (upd (upd t 95 v_94) 94 v_96) 96 v_98) 97 v_100) 98 v_102) 99 v_104) 100 v_106) 101 v_108) 102 v_110) 103 v_112) 10 may_114) 104 v_116) 105 v_118) 106 v_120) 107 v_122) 108 v_124) 109 v_126) 110 v_128) 111 v_130) 112 v_132) 113 v_134) 114 v_136) 115 v_138) h139)) (
arb (.val (t 4) h97) call fun v_142 h143 =>
arb (.call F_turn_Turn_Stopped [v_142] h143) call fun v_144 h145 =>
arb (.val v_144 h145) call fun stopped_146 h147 =>
arb (.val (t 4) h147) call fun v_148 h149 =>
arb (.call F_turn_Turn_Ready [v_148, (.bool false)] h149) call fun v_150 h151 =>
arb (.val v_150 h151) call fun ready_152 h153 =>
arb (.val (t 4) h153) call fun v_154 h155 =>
arb (.val (t 8) h155) call fun v_156 h157 =>
arb (.of (aBin P .add 3 (.tmp 45) (.const (.int .i64 1)) v_156 (.int .i64 1)) h157) call fun v_158 h159 =>
arb (.call F_turn_Turn_Open [v_154, v_158] h159) call fun v_160 h161 =>
arb (.val v_160 h161) call fun v_162 h163 =>
arb (extR v_162 0 h163) call fun v_164 h165 =>
arb (extR v_162 1 h165) call fun v_166 h167 =>
arb (.val v_164 h167) call fun x_168 h169 =>
arb (.val v_166 h169) call fun ok_170 h171 =>
lt (sqK (J_precentorlaw21_TurnKeeps_7 P call fuel k) k) fun k236 =>
arb (.val ok_170 h171) call fun v_237 h238 =>
arb (.val stopped_146 h238) call fun v_239 h240 =>
arb (.of (aBin P .neq 4 (.tmp 50) (.tmp 51) v_237 v_239) h240) call fun v_241 h242 =>
arb (.val v_241 h242) call fun v_243 h244 =>
gd (wantB v_243 false) (fun c => arb (.val ready_152 h244) call c) h244 fun v_245 h246 =>
gd (wantB v_243 false) (fun c => arb (.val v_245 h246) call c) h246 fun v_247 h248 =>
gd (wantB v_247 true) (fun c => arb (.val stopped_146 h248) call c) h248 fun v_249 h250 =>
gd (wantB v_247 true) (fun c => arb (.of (aUn P .not v_249) h250) call c) h250 fun v_251 h252 =>
gd (wantB v_243 false) (fun c => arb (pkR v_247 v_251 (.bool false) h252) call c) h252 fun v_253 h254 =>
arb (pkR v_243 (.bool true) v_253 h254) call fun v_255 h256 =>
cb v_255 (
arb (.val (.bool false) h256) call fun v_257 h258 =>
k236 .ret (upd (upd (upd (upd (upd (upd (upd (upd (upd (upd (upd (upd (upd (upd (upd (upd (upd (upd (upd (upd (upd (upd (upd (upd (upd (upd (upd (upd t 95 v_94) 94 v_96) 39 v_142) 40 v_144) 11 stopped_146) 41 v_148) 42 v_150) 12 ready_152) 44 v_154) 45 v_156) 46 v_158) 47 v_160) 43 v_162) 48 v_164) 49 v_166) 13 x_168) 14 ok_170) 50 v_237) 51 v_239) 52 v_241) 53 v_243) 54 v_245) 55 v_247) 56 v_249) 57 v_251) 58 v_253) 59 v_255) 2 v_257) h258) (
k236 .normal (upd (upd (upd (upd (upd (upd (upd (upd (upd (upd (upd (upd (upd (upd (upd (upd (upd (upd (upd (upd (upd (upd (upd (upd (upd (upd (upd t 95 v_94) 94 v_96) 39 v_142) 40 v_144) 11 stopped_146) 41 v_148) 42 v_150) 12 ready_152) 44 v_154) 45 v_156) 46 v_158) 47 v_160) 43 v_162) 48 v_164) 49 v_166) 13 x_168) 14 ok_170) 50 v_237) 51 v_239) 52 v_241) 53 v_243) 54 v_245) 55 v_247) 56 v_249) 57 v_251) 58 v_253) 59 v_255) h256)))

def J_precentorlaw21_TurnKeeps_3 (P : Program) (call : FuncId → List AVal → Heap → Res AVal) (fuel : Nat) (k : Kn (Ex × T)) (t : T) (h : Heap) : Res (Ex × T) :=
lt (sqK (J_precentorlaw21_TurnKeeps_4 P call fuel k) k) fun k40 =>
lt (blkK 1 k40) fun k41 =>
lt (sqK (J_precentorlaw21_TurnKeeps_5 P call fuel k41) k41) fun k68 =>
arb (.val (t 3) h) call fun v_69 h70 =>
arb (.call F_precentorhand_Feed_Next [v_69, (.int .i64 4)] h70) call fun v_71 h72 =>
lt (blkK 2 k68) fun k73 =>
lt (sqK (J_precentorlaw21_TurnKeeps_6 P call fuel k73) k73) fun k259 =>
arb (.of (aBin P .eql 3 (.tmp 38) (.const (.int .i64 0)) v_71 (.int .i64 0)) h72) call fun v_260 h261 =>
arb (.val v_260 h261) call fun v_262 h263 =>
cb v_262 (
k259 .normal (upd (upd (upd (upd t 37 v_69) 38 v_71) 84 v_260) 83 v_262) h263) (
arb (.of (aBin P .eql 3 (.tmp 38) (.const (.int .i64 1)) v_71 (.int .i64 1)) h263) call fun v_264 h265 =>
arb (.val v_264 h265) call fun v_266 h267 =>
k259 .normal (upd (upd (upd (upd (upd (upd t 37 v_69) 38 v_71) 84 v_260) 83 v_262) 85 v_264) 83 v_266) h267)

def L_precentorlaw21_TurnKeeps_2 (P : Program) (call : FuncId → List AVal → Heap → Res AVal) (fuel : Nat) (t : T) (h : Heap) : Res (Ex × T) :=
lt okK fun k =>
lt (sqK (J_precentorlaw21_TurnKeeps_3 P call fuel k) k) fun k268 =>
arb (.val (t 9) h) call fun v_269 h270 =>
arb (.of (aBin P .lss 3 (.tmp 33) (.const (.int .i64 40)) v_269 (.int .i64 40)) h270) call fun v_271 h272 =>
cb v_271 (
k268 .normal (upd (upd t 33 v_269) 34 v_271) h272) (
k268 (.exit 0) (upd (upd t 33 v_269) 34 v_271) h272)

def J_precentorlaw21_TurnKeeps_0 (P : Program) (call : FuncId → List AVal → Heap → Res AVal) (fuel : Nat) (k : Kn (AVal)) (t : T) (h : Heap) : Res (AVal) :=
arb (.val (.int .i64 0) h) call fun in_22 h23 =>
arb (.val (.int .i64 0) h23) call fun out_24 h25 =>
arb (.val (.int .i64 0) h25) call fun epoch_26 h27 =>
lt (sqK (J_precentorlaw21_TurnKeeps_1 P call fuel k) k) fun k30 =>
arb (.val (.int .i64 0) h27) call fun i_31 h32 =>
lt (blkK 0 k30) fun k33 =>
(loopN (L_precentorlaw21_TurnKeeps_2 P call fuel) fuel (upd (upd (upd (upd t 6 in_22) 7 out_24) 8 epoch_26) 9 i_31) h32).bind (lpK k33)

def S_precentorlaw21_TurnKeeps (P : Program) (call : FuncId → List AVal → Heap → Res AVal) (fuel : Nat) (l_a0 : AVal) (h : Heap) : Res AVal :=
lt (retK P [.tmp 2]) fun k =>
arb (.val (.bool false) h) call fun v_0 h1 =>
arb (.val l_a0 h1) call fun v_2 h3 =>
arb (.of (bldR [.nils, (.int .i64 0)] [(0, 1, v_2)]) h3) call fun v_4 h5 =>
arb (boxR v_4 h5) call fun v_6 h7 =>
arb (.val v_6 h7) call fun f_8 h9 =>
arb (.call F_turn_New [.nils, (.int .i64 0)] h9) call fun v_10 h11 =>
arb (.val v_10 h11) call fun v_12 h13 =>
arb (extR v_12 0 h13) call fun v_14 h15 =>
arb (extR v_12 1 h15) call fun v_16 h17 =>
arb (.val v_14 h17) call fun t_18 h19 =>
arb (.val v_16 h19) call fun e_20 h21 =>
lt (sqK (J_precentorlaw21_TurnKeeps_0 P call fuel k) k) fun k273 =>
arb (.call F_precentorlaw21_known [] h21) call fun v_274 h275 =>
arb (.of (aUn P .not v_274) h275) call fun v_276 h277 =>
arb (.val v_276 h277) call fun v_278 h279 =>
gd (wantB v_278 false) (fun c => arb (.val e_20 h279) call c) h279 fun v_280 h281 =>
gd (wantB v_278 false) (fun c => arb (.of (aBin P .neq 23 (.tmp 26) (.const (.int .i64 0)) v_280 (.int .i64 0)) h281) call c) h281 fun v_282 h283 =>
arb (pkR v_278 (.bool true) v_282 h283) call fun v_284 h285 =>
arb (.val v_284 h285) call fun v_286 h287 =>
gd (wantB v_286 false) (fun c => arb (.val t_18 h287) call c) h287 fun v_288 h289 =>
gd (wantB v_286 false) (fun c => arb (.of (aBin P .eql 22 (.tmp 30) (.const (.pointer none)) v_288 .nilp) h289) call c) h289 fun v_290 h291 =>
arb (pkR v_286 (.bool true) v_290 h291) call fun v_292 h293 =>
cb v_292 (
arb (.val (.bool false) h293) call fun v_294 h295 =>
k273 .ret (upd (upd (upd (upd (upd (upd (upd (upd (upd (upd (upd (upd (upd (upd (upd (upd (upd (upd (upd (upd (upd (upd (enterT [l_a0]) 2 v_0) 16 v_2) 17 v_4) 18 v_6) 3 f_8) 20 v_10) 19 v_12) 21 v_14) 22 v_16) 4 t_18) 5 e_20) 23 v_274) 24 v_276) 25 v_278) 26 v_280) 27 v_282) 28 v_284) 29 v_286) 30 v_288) 31 v_290) 32 v_292) 2 v_294) h295) (
k273 .normal (upd (upd (upd (upd (upd (upd (upd (upd (upd (upd (upd (upd (upd (upd (upd (upd (upd (upd (upd (upd (upd (enterT [l_a0]) 2 v_0) 16 v_2) 17 v_4) 18 v_6) 3 f_8) 20 v_10) 19 v_12) 21 v_14) 22 v_16) 4 t_18) 5 e_20) 23 v_274) 24 v_276) 25 v_278) 26 v_280) 27 v_282) 28 v_284) 29 v_286) 30 v_288) 31 v_290) 32 v_292) h293)
theorem E_precentorlaw21_TurnKeeps (call : FuncId → List AVal → Heap → Res AVal) (fuel : Nat) (l_a0 : AVal) (h : Heap) : bodyR Try.prog call fuel Try.f4 [l_a0] h = S_precentorlaw21_TurnKeeps Try.prog call fuel l_a0 h := by kernel_rfl
theorem R_precentorlaw21_TurnKeeps {X : XTab} (l_a0 : AVal) {h : Heap} {Q : AVal → Heap → Prop} (hx : X F_precentorlaw21_TurnKeeps [l_a0] = none) (q : Tells (fun m => S_precentorlaw21_TurnKeeps Try.prog (acallX Try.prog X m) m l_a0 h) Q) :
    Tells (fun m => acallX Try.prog X m F_precentorlaw21_TurnKeeps [l_a0] h) Q :=
  Tells.later (q.le fun m => (E_precentorlaw21_TurnKeeps (acallX Try.prog X m) m l_a0 h) ▸ acallX_le Try.func4 hx m h)

/-! ### precentor/precentorlaw21.TurnTells -/
def J_precentorlaw21_TurnTells_1 (P : Program) (call : FuncId → List AVal → Heap → Res AVal) (fuel : Nat) (k : Kn (AVal)) (t : T) (h : Heap) : Res (AVal) :=
arb (.val (.bool true) h) call fun v_60 h61 =>
k .ret (upd t 4 v_60) h61

def J_precentorlaw21_TurnTells_4 (P : Program) (call : FuncId → List AVal → Heap → Res AVal) (fuel : Nat) (k : Kn (Ex × T)) (t : T) (h : Heap) : Res (Ex × T) :=
arb (.val (t 11) h) call fun v_66 h67 =>
arb (.of (aBin P .add 3 (.tmp 64) (.const (.int .i64 1)) v_66 (.int .i64 1)) h67) call fun v_68 h69 =>
arb (.val v_68 h69) call fun i_70 h71 =>
k .normal (upd (upd (upd t 64 v_66) 65 v_68) 11 i_70) h71

def J_precentorlaw21_TurnTells_5 (P : Program) (call : FuncId → List AVal → Heap → Res AVal) (fuel : Nat) (k : Kn (Ex × T)) (t : T) (h : Heap) : Res (Ex × T) :=
obv (.val (t 13) h) fun v_94 =>
obv (.of (aUn P .not v_94) h) fun v_96 =>
obv (.val v_96 h) fun v_98 =>
gdr (wantB v_98 false) (fun c => obv (.val (t 7) h) fun v_100 =>
c true v_100 h) h fun w102 v_100 h102 =>
gdr (wantB v_98 false) (fun c => arbE (.call F_turn_Turn_Epoch [v_100] h102) call fun v_103 h104 => lt h104 fun g104 => ifb (true && true) <|
c true v_103 g104) h102 fun w105 v_103 h105 =>
gdr (wantB v_98 false) (fun c => obv (.val (t 9) h105) fun v_106 =>
c true v_106 h105) h105 fun w108 v_106 h108 =>
gdr (wantB v_98 false) (fun c => obv (nckR v_106 h108) fun v_109 =>
c true v_109 h108) h108 fun w111 v_109 h111 =>
gdr (wantB v_98 false) (fun c => obv (.of (fadR 2 v_109) h111) fun v_112 =>
c true v_112 h111) h111 fun w114 v_112 h114 =>
gdr (wantB v_98 false) (fun c => obv (.of (ld1 h114 v_112) h114) fun v_115 => ifb ((!w105 || isV v_115 (arVal (.of (ld1 h102 v_112) h102))) && true) <|
c true v_115 h114) h114 fun w117 v_115 h117 =>
gdr (wantB v_98 false) (fun c => obv (.of (aBin P .neq 3 (.tmp 208) (.tmp 212) v_103 v_115) h117) fun v_118 =>
c true v_118 h117) h117 fun w120 v_118 h120 =>
obv (pkR v_98 (.bool true) v_118 h120) fun v_121 =>
obv (.val v_121 h120) fun v_123 =>
gdr (wantB v_123 false) (fun c => obv (.val (t 7) h120) fun v_125 =>
c true v_125 h120) h120 fun w127 v_125 h127 =>
gdr (wantB v_123 false) (fun c => arbE (.call F_turn_Turn_Stopped [v_125] h127) call fun v_128 h129 => lt h129 fun g129 => ifb (true && true) <|
c true v_128 g129) h127 fun w130 v_128 h130 =>
gdr (wantB v_123 false) (fun c => obv (.val (t 9) h130) fun v_131 =>
c true v_131 h130) h130 fun w133 v_131 h133 =>
gdr (wantB v_123 false) (fun c => obv (nckR v_131 h133) fun v_134 =>
c true v_134 h133) h133 fun w136 v_134 h136 =>
gdr (wantB v_123 false) (fun c => obv (.of (fadR 3 v_134) h136) fun v_137 =>
c true v_137 h136) h136 fun w139 v_137 h139 =>
gdr (wantB v_123 false) (fun c => obv (.of (ld1 h139 v_137) h139) fun v_140 => ifb ((!w130 || isV v_140 (arVal (.of (ld1 h127 v_137) h127))) && true) <|
c true v_140 h139) h139 fun w142 v_140 h142 =>
gdr (wantB v_123 false) (fun c => obv (.of (aBin P .neq 4 (.tmp 217) (.tmp 221) v_128 v_140) h142) fun v_143 =>
c true v_143 h142) h142 fun w145 v_143 h145 =>
obv (pkR v_123 (.bool true) v_143 h145) fun v_146 =>
obv (.val v_146 h145) fun v_148 =>
gdr (wantB v_148 false) (fun c => obv (.val (t 7) h145) fun v_150 =>
c true v_150 h145) h145 fun w152 v_150 h152 =>
gdr (wantB v_148 false) (fun c => arbE (.call F_turn_Turn_Pending [v_150] h152) call fun v_153 h154 => lt h154 fun g154 => ifb (true && true) <|
c true v_153 g154) h152 fun w155 v_153 h155 =>
gdr (wantB v_148 false) (fun c => obv (.val (t 9) h155) fun v_156 =>
c true v_156 h155) h155 fun w158 v_156 h158 =>
gdr (wantB v_148 false) (fun c => obv (nckR v_156 h158) fun v_159 =>
c true v_159 h158) h158 fun w161 v_159 h161 =>
gdr (wantB v_148 false) (fun c => obv (.of (fadR 6 v_159) h161) fun v_162 =>
c true v_162 h161) h161 fun w164 v_162 h164 =>
gdr (wantB v_148 false) (fun c => obv (.of (ld1 h164 v_162) h164) fun v_165 => ifb ((!w155 || isV v_165 (arVal (.of (ld1 h152 v_162) h152))) && true) <|
c true v_165 h164) h164 fun w167 v_165 h167 =>
gdr (wantB v_148 false) (fun c => obv (.of (lenL v_165) h167) fun v_168 =>
c true v_168 h167) h167 fun w170 v_168 h170 =>
gdr (wantB v_148 false) (fun c => obv (.of (aBin P .neq 3 (.tmp 226) (.tmp 231) v_153 v_168) h170) fun v_171 =>
c true v_171 h170) h170 fun w173 v_171 h173 =>
obv (pkR v_148 (.bool true) v_171 h173) fun v_174 =>
cb v_174 (
arb (.val (.bool false) h173) call fun v_176 h177 =>
k .ret (upd (upd (upd (upd (upd (upd (upd (upd (upd (upd (upd (upd (upd (upd (upd (upd (upd (upd (upd (upd (upd (upd (upd (upd (upd (upd (upd (upd (upd (upd (upd t 204 v_94) 205 v_96) 206 v_98) 207 v_100) 208 v_103) 209 v_106) 210 v_109) 211 v_112) 212 v_115) 213 v_118) 214 v_121) 215 v_123) 216 v_125) 217 v_128) 218 v_131) 219 v_134) 220 v_137) 221 v_140) 222 v_143) 223 v_146) 224 v_148) 225 v_150) 226 v_153) 227 v_156) 228 v_159) 229 v_162) 230 v_165) 231 v_168) 232 v_171) 233 v_174) 4 v_176) h177) (
k .normal (upd (upd (upd (upd (upd (upd (upd (upd (upd (upd (upd (upd (upd (upd (upd (upd (upd (upd (upd (upd (upd (upd (upd (upd (upd (upd (upd (upd (upd (upd t 204 v_94) 205 v_96) 206 v_98) 207 v_100) 208 v_103) 209 v_106) 210 v_109) 211 v_112) 212 v_115) 213 v_118) 214 v_121) 215 v_123) 216 v_125) 217 v_128) 218 v_131) 219 v_134) 220 v_137) 221 v_140) 222 v_143) 223 v_146) 224 v_148) 225 v_150) 226 v_153) 227 v_156) 228 v_159) 229 v_162) 230 v_165) 231 v_168) 232 v_171) 233 v_174) h173)

def J_precentorlaw21_TurnTells_9 (P : Program) (call : FuncId → List AVal → Heap → Res AVal) (fuel : Nat) (k : Kn (Ex × T)) (t : T) (h : Heap) : Res (Ex × T) :=
arb (.val (t 21) h) call fun v_399 h400 =>
arb (.of (aBin P .add 3 (.tmp 114) (.const (.int .i64 1)) v_399 (.int .i64 1)) h400) call fun v_401 h402 =>
arb (.val v_401 h402) call fun k_403 h404 =>
k .normal (upd (upd (upd t 114 v_399) 115 v_401) 21 k_403) h404

def J_precentorlaw21_TurnTells_8 (P : Program) (call : FuncId → List AVal → Heap → Res AVal) (fuel : Nat) (k : Kn (Ex × T)) (t : T) (h : Heap) : Res (Ex × T) :=
lt (sqK (J_precentorlaw21_TurnTells_9 P call fuel k) k) fun k405 =>
lt (blkK 4 k405) fun k406 =>
obv (.val (t 17) h) fun v_407 =>
obv (.val (t 21) h) fun v_409 =>
obv (.of (ixsR 5 v_407 v_409) h) fun v_411 =>
obv (.of (fadR 0 v_411) h) fun v_413 =>
obv (.of (ld1 h v_413) h) fun v_415 => ifb true <|
obv (.val (t 19) h) fun v_417 =>
obv (.val (t 21) h) fun v_419 =>
obv (.of (ixsR 5 v_417 v_419) h) fun v_421 =>
obv (.of (fadR 0 v_421) h) fun v_423 =>
obv (.of (ld1 h v_423) h) fun v_425 => ifb true <|
obv (.of (aBin P .eql 4 (.tmp 120) (.tmp 125) v_415 v_425) h) fun v_427 =>
obv (.val v_427 h) fun v_429 =>
gdr (wantB v_429 true) (fun c => obv (.val (t 17) h) fun v_431 =>
c true v_431 h) h fun w433 v_431 h433 =>
gdr (wantB v_429 true) (fun c => obv (.val (t 21) h433) fun v_434 =>
c true v_434 h433) h433 fun w436 v_434 h436 =>
gdr (wantB v_429 true) (fun c => obv (.of (ixsR 5 v_431 v_434) h436) fun v_437 =>
c true v_437 h436) h436 fun w439 v_437 h439 =>
gdr (wantB v_429 true) (fun c => obv (.of (fadR 1 v_437) h439) fun v_440 =>
c true v_440 h439) h439 fun w442 v_440 h442 =>
gdr (wantB v_429 true) (fun c => obv (.of (ldn 4 h442 v_440) h442) fun v_443 => ifb true <|
c true v_443 h442) h442 fun w445 v_443 h445 =>
gdr (wantB v_429 true) (fun c => obv (.val (t 19) h445) fun v_446 =>
c true v_446 h445) h445 fun w448 v_446 h448 =>
gdr (wantB v_429 true) (fun c => obv (.val (t 21) h448) fun v_449 =>
c true v_449 h448) h448 fun w451 v_449 h451 =>
gdr (wantB v_429 true) (fun c => obv (.of (ixsR 5 v_446 v_449) h451) fun v_452 =>
c true v_452 h451) h451 fun w454 v_452 h454 =>
gdr (wantB v_429 true) (fun c => obv (.of (fadR 1 v_452) h454) fun v_455 =>
c true v_455 h454) h454 fun w457 v_455 h457 =>
gdr (wantB v_429 true) (fun c => obv (.of (ldn 4 h457 v_455) h457) fun v_458 => ifb true <|
c true v_458 h457) h457 fun w460 v_458 h460 =>
gdr (wantB v_429 true) (fun c => arbE (.call F_precentorref1_SameSub [v_443, v_458] h460) call fun v_461 h462 => lt h462 fun g462 => ifb (true && true) <|
c true v_461 g462) h460 fun w463 v_461 h463 =>
obv (pkR v_429 v_461 (.bool false) h463) fun v_464 =>
obv (.val v_464 h463) fun ok_466 =>
k406 .normal (upd (upd (upd (upd (upd (upd (upd (upd (upd (upd (upd (upd (upd (upd (upd (upd (upd (upd (upd (upd (upd (upd (upd (upd (upd t 116 v_407) 117 v_409) 118 v_411) 119 v_413) 120 v_415) 121 v_417) 122 v_419) 123 v_421) 124 v_423) 125 v_425) 126 v_427) 127 v_429) 128 v_431) 129 v_434) 130 v_437) 131 v_440) 132 v_443) 133 v_446) 134 v_449) 135 v_452) 136 v_455) 137 v_458) 138 v_461) 139 v_464) 13 ok_466) h463

def L_precentorlaw21_TurnTells_7 (P : Program) (call : FuncId → List AVal → Heap → Res AVal) (fuel : Nat) (t : T) (h : Heap) : Res (Ex × T) :=
lt okK fun k =>
lt (sqK (J_precentorlaw21_TurnTells_8 P call fuel k) k) fun k468 =>
arb (.val (t 21) h) call fun v_469 h470 =>
arb (.val (t 17) h470) call fun v_471 h472 =>
arb (.of (lenL v_471) h472) call fun v_473 h474 =>
arb (.of (aBin P .lss 3 (.tmp 107) (.tmp 109) v_469 v_473) h474) call fun v_475 h476 =>
arb (.val v_475 h476) call fun v_477 h478 =>
gd (wantB v_477 true) (fun c => arb (.val (t 13) h478) call c) h478 fun v_479 h480 =>
arb (pkR v_477 v_479 (.bool false) h480) call fun v_481 h482 =>
cb v_481 (
k468 .normal (upd (upd (upd (upd (upd (upd (upd t 107 v_469) 108 v_471) 109 v_473) 110 v_475) 111 v_477) 112 v_479) 113 v_481) h482) (
k468 (.exit 3) (upd (upd (upd (upd (upd (upd (upd t 107 v_469) 108 v_471) 109 v_473) 110 v_475) 111 v_477) 112 v_479) 113 v_481) h482)

def J_precentorlaw21_TurnTells_6 (P : Program) (call : FuncId → List AVal → Heap → Res AVal) (fuel : Nat) (k : Kn (Ex × T)) (t : T) (h : Heap) : Res (Ex × T) :=
cb (t 173) (
arb (.val (t 5) h) call fun v_260 h261 =>
arb (.val (t 6) h261) call fun v_262 h263 =>
arb (.of (lenL v_262) h263) call fun v_264 h265 =>
arb (.of (aBin P .add 3 (.tmp 179) (.const (.int .i64 3)) v_264 (.int .i64 3)) h265) call fun v_266 h267 =>
arb (.call F_precentorhand_Feed_Next [v_260, v_266] h267) call fun v_268 h269 =>
arb (.of (aBin P .sub 3 (.tmp 181) (.const (.int .i64 1)) v_268 (.int .i64 1)) h269) call fun v_270 h271 =>
arb (.val v_270 h271) call fun k_272 h273 =>
arb (.val (t 7) h273) call fun v_274 h275 =>
arb (.val k_272 h275) call fun v_276 h277 =>
arb (.val (t 12) h277) call fun v_278 h279 =>
arb (.call F_turn_Turn_Quiet [v_274, v_276, v_278] h279) call fun v_280 h281 =>
arb (.val (t 9) h281) call fun v_282 h283 =>
arb (.val k_272 h283) call fun v_284 h285 =>
arb (.val (t 12) h285) call fun v_286 h287 =>
arb (.call F_precentorref14_Turn_Quiet [v_282, v_284, v_286] h287) call fun v_288 h289 =>
arb (.of (aBin P .eql 4 (.tmp 186) (.tmp 190) v_280 v_288) h289) call fun v_290 h291 =>
arb (.val v_290 h291) call fun ok_292 h293 =>
k .normal (upd (upd (upd (upd (upd (upd (upd (upd (upd (upd (upd (upd (upd (upd (upd (upd (upd t 177 v_260) 178 v_262) 179 v_264) 180 v_266) 181 v_268) 182 v_270) 15 k_272) 183 v_274) 184 v_276) 185 v_278) 186 v_280) 187 v_282) 188 v_284) 189 v_286) 190 v_288) 191 v_290) 13 ok_292) h293) (
arb (.of (aBin P .eql 3 (.tmp 75) (.const (.int .i64 6)) (t 75) (.int .i64 6)) h) call fun v_294 h295 =>
arb (.val v_294 h295) call fun v_296 h297 =>
cb v_296 (
arb (.val (t 5) h297) call fun v_298 h299 =>
arb (.call F_precentorhand_Feed_Next [v_298, (.int .i64 3)] h299) call fun v_300 h301 =>
arb (.of (aBin P .eql 3 (.tmp 195) (.const (.int .i64 0)) v_300 (.int .i64 0)) h301) call fun v_302 h303 =>
arb (.val v_302 h303) call fun live_304 h305 =>
arb (.val (t 7) h305) call fun v_306 h307 =>
arb (.val live_304 h307) call fun v_308 h309 =>
arb (.call F_turn_Turn_Ready [v_306, v_308] h309) call fun v_310 h311 =>
arb (.val (t 9) h311) call fun v_312 h313 =>
arb (.val live_304 h313) call fun v_314 h315 =>
arb (.call F_precentorref14_Turn_IsReady [v_312, v_314] h315) call fun v_316 h317 =>
arb (.of (aBin P .eql 4 (.tmp 199) (.tmp 202) v_310 v_316) h317) call fun v_318 h319 =>
arb (.val v_318 h319) call fun ok_320 h321 =>
k .normal (upd (upd (upd (upd (upd (upd (upd (upd (upd (upd (upd (upd (upd (upd t 193 v_294) 192 v_296) 194 v_298) 195 v_300) 196 v_302) 16 live_304) 197 v_306) 198 v_308) 199 v_310) 200 v_312) 201 v_314) 202 v_316) 203 v_318) 13 ok_320) h321) (
obv (.val (t 9) h297) fun v_322 =>
obv (nckR v_322 h297) fun v_324 =>
obv (.of (fadR 2 v_324) h297) fun v_326 =>
obv (.of (ld1 h297 v_326) h297) fun v_328 => ifb true <|
obv (.of (aBin P .add 3 (.tmp 79) (.const (.int .i64 1)) v_328 (.int .i64 1)) h297) fun v_330 =>
obv (.val (t 5) h297) fun v_332 =>
arbE (.call F_precentorhand_Feed_Next [v_332, (.int .i64 7)] h297) call fun v_334 h335 => lt h335 fun g335 => ifb (true && (isV v_328 (arVal (.of (ld1 g335 v_326) g335)) && true)) <|
obv (.of (aBin P .quo 3 (.tmp 82) (.const (.int .i64 6)) v_334 (.int .i64 6)) g335) fun v_336 =>
obv (.of (aBin P .add 3 (.tmp 80) (.tmp 83) v_330 v_336) g335) fun v_338 =>
obv (.val v_338 g335) fun epoch_340 =>
arb (.val (t 7) g335) call fun v_342 h343 =>
arb (.val epoch_340 h343) call fun v_344 h345 =>
arb (.call F_turn_Turn_Open [v_342, v_344] h345) call fun v_346 h347 =>
arb (.val v_346 h347) call fun v_348 h349 =>
arb (extR v_348 0 h349) call fun v_350 h351 =>
arb (extR v_348 1 h351) call fun v_352 h353 =>
arb (.val v_350 h353) call fun x_354 h355 =>
arb (.val v_352 h355) call fun p_356 h357 =>
arb (.val (t 9) h357) call fun v_358 h359 =>
arb (.val epoch_340 h359) call fun v_360 h361 =>
arb (.call F_precentorref14_Turn_Open [v_358, v_360] h361) call fun v_362 h363 =>
arb (.val v_362 h363) call fun v_364 h365 =>
arb (extR v_364 0 h365) call fun v_366 h367 =>
arb (extR v_364 1 h367) call fun v_368 h369 =>
arb (.val v_366 h369) call fun y_370 h371 =>
arb (.val v_368 h371) call fun q_372 h373 =>
arb (.val p_356 h373) call fun v_374 h375 =>
arb (.val q_372 h375) call fun v_376 h377 =>
arb (.of (aBin P .eql 4 (.tmp 97) (.tmp 98) v_374 v_376) h377) call fun v_378 h379 =>
arb (.val v_378 h379) call fun v_380 h381 =>
gd (wantB v_380 true) (fun c => arb (.val x_354 h381) call c) h381 fun v_382 h383 =>
gd (wantB v_380 true) (fun c => arb (.of (lenL v_382) h383) call c) h383 fun v_384 h385 =>
gd (wantB v_380 true) (fun c => arb (.val y_370 h385) call c) h385 fun v_386 h387 =>
gd (wantB v_380 true) (fun c => arb (.of (lenL v_386) h387) call c) h387 fun v_388 h389 =>
gd (wantB v_380 true) (fun c => arb (.of (aBin P .eql 3 (.tmp 102) (.tmp 104) v_384 v_388) h389) call c) h389 fun v_390 h391 =>
arb (pkR v_380 v_390 (.bool false) h391) call fun v_392 h393 =>
arb (.val v_392 h393) call fun ok_394 h395 =>
arb (.val (.int .i64 0) h395) call fun k_396 h397 =>
lt (blkK 3 k) fun k398 =>
(loopN (L_precentorlaw21_TurnTells_7 P call fuel) fuel (upd (upd (upd (upd (upd (upd (upd (upd (upd (upd (upd (upd (upd (upd (upd (upd (upd (upd (upd (upd (upd (upd (upd (upd (upd (upd (upd (upd (upd (upd (upd (upd (upd (upd (upd (upd (upd (upd (upd (upd t 193 v_294) 192 v_296) 76 v_322) 77 v_324) 78 v_326) 79 v_328) 80 v_330) 81 v_332) 82 v_334) 83 v_336) 84 v_338) 12 epoch_340) 86 v_342) 87 v_344) 88 v_346) 85 v_348) 89 v_350) 90 v_352) 17 x_354) 18 p_356) 92 v_358) 93 v_360) 94 v_362) 91 v_364) 95 v_366) 96 v_368) 19 y_370) 20 q_372) 97 v_374) 98 v_376) 99 v_378) 100 v_380) 101 v_382) 102 v_384) 103 v_386) 104 v_388) 105 v_390) 106 v_392) 13 ok_394) 21 k_396) h397).bind (lpK k398)))

def J_precentorlaw21_TurnTells_3 (P : Program) (call : FuncId → List AVal → Heap → Res AVal) (fuel : Nat) (k : Kn (Ex × T)) (t : T) (h : Heap) : Res (Ex × T) :=
lt (sqK (J_precentorlaw21_TurnTells_4 P call fuel k) k) fun k72 =>
lt (blkK 1 k72) fun k73 =>
obv (.val (t 9) h) fun v_74 =>
obv (nckR v_74 h) fun v_76 =>
obv (.of (fadR 2 v_76) h) fun v_78 =>
obv (.of (ld1 h v_78) h) fun v_80 => ifb true <|
obv (.val (t 5) h) fun v_82 =>
arbE (.call F_precentorhand_Feed_Next [v_82, (.int .i64 6)] h) call fun v_84 h85 => lt h85 fun g85 => ifb (true && (isV v_80 (arVal (.of (ld1 g85 v_78) g85)) && true)) <|
obv (.of (aBin P .quo 3 (.tmp 71) (.const (.int .i64 4)) v_84 (.int .i64 4)) g85) fun v_86 =>
obv (.of (aBin P .add 3 (.tmp 69) (.tmp 72) v_80 v_86) g85) fun v_88 =>
obv (.val v_88 g85) fun epoch_90 =>
arb (.val (.bool true) g85) call fun ok_92 h93 =>
lt (sqK (J_precentorlaw21_TurnTells_5 P call fuel k73) k73) fun k178 =>
arb (.val (t 5) h93) call fun v_179 h180 =>
arb (.call F_precentorhand_Feed_Next [v_179, (.int .i64 8)] h180) call fun v_181 h182 =>
lt (blkK 2 k178) fun k183 =>
arb (.of (aBin P .eql 3 (.tmp 75) (.const (.int .i64 0)) v_181 (.int .i64 0)) h182) call fun v_184 h185 =>
arb (.val v_184 h185) call fun v_186 h187 =>
cb v_186 (
arb (.val (t 5) h187) call fun v_188 h189 =>
arb (.call F_precentorhand_Feed_Next [v_188, (.int .i64 2)] h189) call fun v_190 h191 =>
arb (.of (aBin P .eql 3 (.tmp 143) (.const (.int .i64 1)) v_190 (.int .i64 1)) h191) call fun v_192 h193 =>
arb (.val (t 5) h193) call fun v_194 h195 =>
arb (.call F_precentorhand_Feed_Next [v_194, (.int .i64 9)] h195) call fun v_196 h197 =>
arb (.val (t 11) h197) call fun v_198 h199 =>
arb (.of (bldR [(.int .i64 0), (.int .i64 0), (.int .i64 0), .nils] [(0, 1, v_196), (2, 1, v_198)]) h199) call fun v_200 h201 =>
arb (.of (bldR [(.bool false), (.int .i64 0), (.int .i64 0), (.int .i64 0), .nils] [(0, 1, v_192), (1, 4, v_200)]) h201) call fun v_202 h203 =>
arb (newR [(.bool false), (.int .i64 0), (.int .i64 0), (.int .i64 0), .nils] h203) call fun c_204 h205 =>
arb (stR 5 h205 c_204 v_202) call fun v_206 h207 =>
obv (.val (t 7) h207) fun v_208 =>
obv (.of (ldn 5 h207 c_204) h207) fun v_210 => ifb true <|
arbE (.call F_turn_Turn_Add [v_208, v_210] h207) call fun v_212 h213 => lt h213 fun g213 => ifb (true && true) <|
obv (.val (t 9) g213) fun v_214 =>
obv (.of (ldn 5 g213 c_204) g213) fun v_216 => ifb (isV v_216 (arVal (.of (ldn 5 h207 c_204) h207)) && true) <|
arbE (.call F_precentorref14_Turn_Add [v_214, v_216] g213) call fun v_218 h219 => lt h219 fun g219 => ifb (true && true) <|
obv (.of (aBin P .eql 4 (.tmp 152) (.tmp 155) v_212 v_218) g219) fun v_220 =>
obv (.val v_220 g219) fun ok_222 =>
k183 .normal (upd (upd (upd (upd (upd (upd (upd (upd (upd (upd (upd (upd (upd (upd (upd (upd (upd (upd (upd (upd (upd (upd (upd (upd (upd (upd (upd (upd (upd (upd (upd t 66 v_74) 67 v_76) 68 v_78) 69 v_80) 70 v_82) 71 v_84) 72 v_86) 73 v_88) 12 epoch_90) 13 ok_92) 74 v_179) 75 v_181) 141 v_184) 140 v_186) 142 v_188) 143 v_190) 144 v_192) 145 v_194) 146 v_196) 147 v_198) 148 v_200) 149 v_202) 14 c_204) 150 v_208) 151 v_210) 152 v_212) 153 v_214) 154 v_216) 155 v_218) 156 v_220) 13 ok_222) g219) (
arb (.of (aBin P .eql 3 (.tmp 75) (.const (.int .i64 1)) v_181 (.int .i64 1)) h187) call fun v_224 h225 =>
arb (.val v_224 h225) call fun v_226 h227 =>
cb v_226 (
arb (.val (t 7) h227) call fun v_228 h229 =>
arb (.call F_turn_Turn_Begin [v_228] h229) call fun v_230 h231 =>
arb (.val (t 9) h231) call fun v_232 h233 =>
arb (.call F_precentorref14_Turn_Begin [v_232] h233) call fun v_234 h235 =>
arb (.of (aBin P .eql 4 (.tmp 160) (.tmp 162) v_230 v_234) h235) call fun v_236 h237 =>
arb (.val v_236 h237) call fun ok_238 h239 =>
k183 .normal (upd (upd (upd (upd (upd (upd (upd (upd (upd (upd (upd (upd (upd (upd (upd (upd (upd (upd (upd (upd (upd (upd t 66 v_74) 67 v_76) 68 v_78) 69 v_80) 70 v_82) 71 v_84) 72 v_86) 73 v_88) 12 epoch_90) 13 ok_92) 74 v_179) 75 v_181) 141 v_184) 140 v_186) 158 v_224) 157 v_226) 159 v_228) 160 v_230) 161 v_232) 162 v_234) 163 v_236) 13 ok_238) h239) (
arb (.of (aBin P .eql 3 (.tmp 75) (.const (.int .i64 2)) v_181 (.int .i64 2)) h227) call fun v_240 h241 =>
arb (.val v_240 h241) call fun v_242 h243 =>
cb v_242 (
arb (.val (t 7) h243) call fun v_244 h245 =>
arb (.val epoch_90 h245) call fun v_246 h247 =>
arb (.call F_turn_Turn_Stop [v_244, v_246] h247) call fun v_248 h249 =>
arb (.val (t 9) h249) call fun v_250 h251 =>
arb (.val epoch_90 h251) call fun v_252 h253 =>
arb (.call F_precentorref14_Turn_Stop [v_250, v_252] h253) call fun v_254 h255 =>
arb (.of (aBin P .eql 4 (.tmp 168) (.tmp 171) v_248 v_254) h255) call fun v_256 h257 =>
arb (.val v_256 h257) call fun ok_258 h259 =>
k183 .normal (upd (upd (upd (upd (upd (upd (upd (upd (upd (upd (upd (upd (upd (upd (upd (upd (upd (upd (upd (upd (upd (upd (upd (upd (upd (upd t 66 v_74) 67 v_76) 68 v_78) 69 v_80) 70 v_82) 71 v_84) 72 v_86) 73 v_88) 12 epoch_90) 13 ok_92) 74 v_179) 75 v_181) 141 v_184) 140 v_186) 158 v_224) 157 v_226) 165 v_240) 164 v_242) 166 v_244) 167 v_246) 168 v_248) 169 v_250) 170 v_252) 171 v_254) 172 v_256) 13 ok_258) h259) (
lt (sqK (J_precentorlaw21_TurnTells_6 P call fuel k183) k183) fun k483 =>
arb (.of (aBin P .eql 3 (.tmp 75) (.const (.int .i64 3)) v_181 (.int .i64 3)) h243) call fun v_484 h485 =>
arb (.val v_484 h485) call fun v_486 h487 =>
cb v_486 (
k483 .normal (upd (upd (upd (upd (upd (upd (upd (upd (upd (upd (upd (upd (upd (upd (upd (upd (upd (upd (upd (upd t 66 v_74) 67 v_76) 68 v_78) 69 v_80) 70 v_82) 71 v_84) 72 v_86) 73 v_88) 12 epoch_90) 13 ok_92) 74 v_179) 75 v_181) 141 v_184) 140 v_186) 158 v_224) 157 v_226) 165 v_240) 164 v_242) 174 v_484) 173 v_486) h487) (
arb (.of (aBin P .eql 3 (.tmp 75) (.const (.int .i64 4)) v_181 (.int .i64 4)) h487) call fun v_488 h489 =>
arb (.val v_488 h489) call fun v_490 h491 =>
cb v_490 (
k483 .normal (upd (upd (upd (upd (upd (upd (upd (upd (upd (upd (upd (upd (upd (upd (upd (upd (upd (upd (upd (upd (upd (upd t 66 v_74) 67 v_76) 68 v_78) 69 v_80) 70 v_82) 71 v_84) 72 v_86) 73 v_88) 12 epoch_90) 13 ok_92) 74 v_179) 75 v_181) 141 v_184) 140 v_186) 158 v_224) 157 v_226) 165 v_240) 164 v_242) 174 v_484) 173 v_486) 175 v_488) 173 v_490) h491) (
arb (.of (aBin P .eql 3 (.tmp 75) (.const (.int .i64 5)) v_181 (.int .i64 5)) h491) call fun v_492 h493 =>
arb (.val v_492 h493) call fun v_494 h495 =>
k483 .normal (upd (upd (upd (upd (upd (upd (upd (upd (upd (upd (upd (upd (upd (upd (upd (upd (upd (upd (upd (upd (upd (upd (upd (upd t 66 v_74) 67 v_76) 68 v_78) 69 v_80) 70 v_82) 71 v_84) 72 v_86) 73 v_88) 12 epoch_90) 13 ok_92) 74 v_179) 75 v_181) 141 v_184) 140 v_186) 158 v_224) 157 v_226) 165 v_240) 164 v_242) 174 v_484) 173 v_486) 175 v_488) 173 v_490) 176 v_492) 173 v_494) h495)))))

def L_precentorlaw21_TurnTells_2 (P : Program) (call : FuncId → List AVal → Heap → Res AVal) (fuel : Nat) (t : T) (h : Heap) : Res (Ex × T) :=
lt okK fun k =>
lt (sqK (J_precentorlaw21_TurnTells_3 P call fuel k) k) fun k496 =>
arb (.val (t 11) h) call fun v_497 h498 =>
arb (.of (aBin P .lss 3 (.tmp 58) (.const (.int .i64 40)) v_497 (.int .i64 40)) h498) call fun v_499 h500 =>
arb (.val v_499 h500) call fun v_501 h502 =>
gd (wantB v_501 true) (fun c => arb (.val (t 8) h502) call c) h502 fun v_503 h504 =>
gd (wantB v_501 true) (fun c => arb (.of (aBin P .eql 23 (.tmp 61) (.const (.int .i64 0)) v_503 (.int .i64 0)) h504) call c) h504 fun v_505 h506 =>
arb (pkR v_501 v_505 (.bool false) h506) call fun v_507 h508 =>
cb v_507 (
k496 .normal (upd (upd (upd (upd (upd (upd t 58 v_497) 59 v_499) 60 v_501) 61 v_503) 62 v_505) 63 v_507) h508) (
k496 (.exit 0) (upd (upd (upd (upd (upd (upd t 58 v_497) 59 v_499) 60 v_501) 61 v_503) 62 v_505) 63 v_507) h508)

def J_precentorlaw21_TurnTells_0 (P : Program) (call : FuncId → List AVal → Heap → Res AVal) (fuel : Nat) (k : Kn (AVal)) (t : T) (h : Heap) : Res (AVal) :=
lt (sqK (J_precentorlaw21_TurnTells_1 P call fuel k) k) fun k62 =>
arb (.val (.int .i64 0) h) call fun i_63 h64 =>
lt (blkK 0 k62) fun k65 =>
(loopN (L_precentorlaw21_TurnTells_2 P call fuel) fuel (upd t 11 i_63) h64).bind (lpK k65)

def S_precentorlaw21_TurnTells (P : Program) (call : FuncId → List AVal → Heap → Res AVal) (fuel : Nat) (l_a0 b_a1 : AVal) (h : Heap) : Res AVal :=
lt (retK P [.tmp 4]) fun k =>
arb (.val (.bool false) h) call fun v_0 h1 =>
arb (.val l_a0 h1) call fun v_2 h3 =>
arb (.of (bldR [.nils, (.int .i64 0)] [(0, 1, v_2)]) h3) call fun v_4 h5 =>
arb (boxR v_4 h5) call fun v_6 h7 =>
arb (.val v_6 h7) call fun f_8 h9 =>
arb (.val f_8 h9) call fun v_10 h11 =>
arb (.call F_precentorhand_Feed_Tree [v_10, (.int .i64 5)] h11) call fun v_12 h13 =>
arb (.val v_12 h13) call fun p_14 h15 =>
arb (.val b_a1 h15) call fun v_16 h17 =>
arb (.val p_14 h17) call fun v_18 h19 =>
arb (.of (lenL v_18) h19) call fun v_20 h21 =>
arb (.of (aBin P .add 3 (.tmp 29) (.const (.int .i64 2)) v_20 (.int .i64 2)) h21) call fun v_22 h23 =>
arb (.call F_precentorhand_Pick [v_16, v_22] h23) call fun v_24 h25 =>
arb (.val v_24 h25) call fun b_26 h27 =>
arb (.val p_14 h27) call fun v_28 h29 =>
arb (.val b_26 h29) call fun v_30 h31 =>
arb (.call F_turn_New [v_28, v_30] h31) call fun v_32 h33 =>
arb (.val v_32 h33) call fun v_34 h35 =>
arb (extR v_34 0 h35) call fun v_36 h37 =>
arb (extR v_34 1 h37) call fun v_38 h39 =>
arb (.val v_36 h39) call fun t_40 h41 =>
arb (.val v_38 h41) call fun e_42 h43 =>
arb (.val p_14 h43) call fun v_44 h45 =>
arb (.val b_26 h45) call fun v_46 h47 =>
arb (.call F_precentorref14_NewTurn [v_44, v_46] h47) call fun v_48 h49 =>
arb (.val v_48 h49) call fun v_50 h51 =>
arb (extR v_50 0 h51) call fun v_52 h53 =>
arb (extR v_50 1 h53) call fun v_54 h55 =>
arb (.val v_52 h55) call fun r_56 h57 =>
arb (.val v_54 h57) call fun d_58 h59 =>
lt (sqK (J_precentorlaw21_TurnTells_0 P call fuel k) k) fun k509 =>
arb (.call F_precentorlaw21_known [] h59) call fun v_510 h511 =>
arb (.of (aUn P .not v_510) h511) call fun v_512 h513 =>
arb (.val v_512 h513) call fun v_514 h515 =>
gd (wantB v_514 false) (fun c => arb (.val e_42 h515) call c) h515 fun v_516 h517 =>
gd (wantB v_514 false) (fun c => arb (.val d_58 h517) call c) h517 fun v_518 h519 =>
gd (wantB v_514 false) (fun c => arb (.of (aBin P .neq 23 (.tmp 47) (.tmp 48) v_516 v_518) h519) call c) h519 fun v_520 h521 =>
arb (pkR v_514 (.bool true) v_520 h521) call fun v_522 h523 =>
arb (.val v_522 h523) call fun v_524 h525 =>
gd (wantB v_524 false) (fun c => arb (.val t_40 h525) call c) h525 fun v_526 h527 =>
gd (wantB v_524 false) (fun c => arb (.of (aBin P .eql 22 (.tmp 52) (.const (.pointer none)) v_526 .nilp) h527) call c) h527 fun v_528 h529 =>
gd (wantB v_524 false) (fun c => arb (.val e_42 h529) call c) h529 fun v_530 h531 =>
gd (wantB v_524 false) (fun c => arb (.of (aBin P .neq 23 (.tmp 54) (.const (.int .i64 0)) v_530 (.int .i64 0)) h531) call c) h531 fun v_532 h533 =>
gd (wantB v_524 false) (fun c => arb (.of (aBin P .neq 4 (.tmp 53) (.tmp 55) v_528 v_532) h533) call c) h533 fun v_534 h535 =>
arb (pkR v_524 (.bool true) v_534 h535) call fun v_536 h537 =>
cb v_536 (
arb (.val (.bool false) h537) call fun v_538 h539 =>
k509 .ret (upd (upd (upd (upd (upd (upd (upd (upd (upd (upd (upd (upd (upd (upd (upd (upd (upd (upd (upd (upd (upd (upd (upd (upd (upd (upd (upd (upd (upd (upd (upd (upd (upd (upd (upd (upd (upd (upd (upd (upd (upd (upd (upd (upd (upd (enterT [l_a0, b_a1]) 4 v_0) 22 v_2) 23 v_4) 24 v_6) 5 f_8) 25 v_10) 26 v_12) 6 p_14) 27 v_16) 28 v_18) 29 v_20) 30 v_22) 31 v_24) 1 b_26) 33 v_28) 34 v_30) 35 v_32) 32 v_34) 36 v_36) 37 v_38) 7 t_40) 8 e_42) 39 v_44) 40 v_46) 41 v_48) 38 v_50) 42 v_52) 43 v_54) 9 r_56) 10 d_58) 44 v_510) 45 v_512) 46 v_514) 47 v_516) 48 v_518) 49 v_520) 50 v_522) 51 v_524) 52 v_526) 53 v_528) 54 v_530) 55 v_532) 56 v_534) 57 v_536) 4 v_538) h539) (
k509 .normal (upd (upd (upd (upd (upd (upd (upd (upd (upd (upd (upd (upd (upd (upd (upd (upd (upd (upd (upd (upd (upd (upd (upd (upd (upd (upd (upd (upd (upd (upd (upd (upd (upd (upd (upd (upd (upd (upd (upd (upd (upd (upd (upd (upd (enterT [l_a0, b_a1]) 4 v_0) 22 v_2) 23 v_4) 24 v_6) 5 f_8) 25 v_10) 26 v_12) 6 p_14) 27 v_16) 28 v_18) 29 v_20) 30 v_22) 31 v_24) 1 b_26) 33 v_28) 34 v_30) 35 v_32) 32 v_34) 36 v_36) 37 v_38) 7 t_40) 8 e_42) 39 v_44) 40 v_46) 41 v_48) 38 v_50) 42 v_52) 43 v_54) 9 r_56) 10 d_58) 44 v_510) 45 v_512) 46 v_514) 47 v_516) 48 v_518) 49 v_520) 50 v_522) 51 v_524) 52 v_526) 53 v_528) 54 v_530) 55 v_532) 56 v_534) 57 v_536) h537)
theorem E_precentorlaw21_TurnTells (call : FuncId → List AVal → Heap → Res AVal) (fuel : Nat) (l_a0 b_a1 : AVal) (h : Heap) : bodyR Try.prog call fuel Try.f5 [l_a0, b_a1] h = S_precentorlaw21_TurnTells Try.prog call fuel l_a0 b_a1 h := by kernel_rfl
theorem R_precentorlaw21_TurnTells {X : XTab} (l_a0 b_a1 : AVal) {h : Heap} {Q : AVal → Heap → Prop} (hx : X F_precentorlaw21_TurnTells [l_a0, b_a1] = none) (q : Tells (fun m => S_precentorlaw21_TurnTells Try.prog (acallX Try.prog X m) m l_a0 b_a1 h) Q) :
    Tells (fun m => acallX Try.prog X m F_precentorlaw21_TurnTells [l_a0, b_a1] h) Q :=
  Tells.later (q.le fun m => (E_precentorlaw21_TurnTells (acallX Try.prog X m) m l_a0 b_a1 h) ▸ acallX_le Try.func5 hx m h)

/-! ### precentor/precentorlaw21.TurnWaits -/
def J_precentorlaw21_TurnWaits_3 (P : Program) (call : FuncId → List AVal → Heap → Res AVal) (fuel : Nat) (k : Kn (AVal)) (t : T) (h : Heap) : Res (AVal) :=
arb (.val (.bool true) h) call fun v_20 h21 =>
k .ret (upd t 4 v_20) h21

def J_precentorlaw21_TurnWaits_6 (P : Program) (call : FuncId → List AVal → Heap → Res AVal) (fuel : Nat) (k : Kn (Ex × T)) (t : T) (h : Heap) : Res (Ex × T) :=
arb (.val (t 21) h) call fun v_36 h37 =>
arb (.of (aBin P .add 3 (.tmp 245) (.const (.int .i64 1)) v_36 (.int .i64 1)) h37) call fun v_38 h39 =>
arb (.val v_38 h39) call fun b_40 h41 =>
k .normal (upd (upd (upd t 245 v_36) 246 v_38) 21 b_40) h41

def J_precentorlaw21_TurnWaits_7 (P : Program) (call : FuncId → List AVal → Heap → Res AVal) (fuel : Nat) (k : Kn (Ex × T)) (t : T) (h : Heap) : Res (Ex × T) :=
arb (.val (t 7) h) call fun v_44 h45 =>
arb (.val (t 21) h45) call fun v_46 h47 =>
arb (.of (ixsR 1 v_44 v_46) h47) call fun v_48 h49 =>
arb (.of (ld1 h49 v_48) h49) call fun v_50 h51 =>
arb (.call F_turn_Turn_Open [v_50, (.int .i64 1)] h51) call fun v_52 h53 =>
arb (.val v_52 h53) call fun v_54 h55 =>
arb (extR v_54 0 h55) call fun v_56 h57 =>
arb (extR v_54 1 h57) call fun v_58 h59 =>
arb (.val v_56 h59) call fun v_60 h61 =>
arb (.val v_58 h61) call fun ok_62 h63 =>
arb (.val ok_62 h63) call fun v_64 h65 =>
arb (.val v_64 h65) call fun v_66 h67 =>
gd (wantB v_66 false) (fun c => arb (.val (t 7) h67) call c) h67 fun v_68 h69 =>
gd (wantB v_66 false) (fun c => arb (.val (t 21) h69) call c) h69 fun v_70 h71 =>
gd (wantB v_66 false) (fun c => arb (.of (ixsR 1 v_68 v_70) h71) call c) h71 fun v_72 h73 =>
gd (wantB v_66 false) (fun c => arb (.of (ld1 h73 v_72) h73) call c) h73 fun v_74 h75 =>
gd (wantB v_66 false) (fun c => arb (.call F_turn_Turn_Stopped [v_74] h75) call c) h75 fun v_76 h77 =>
arb (pkR v_66 (.bool true) v_76 h77) call fun v_78 h79 =>
arb (.val v_78 h79) call fun v_80 h81 =>
gd (wantB v_80 false) (fun c => arb (.val (t 7) h81) call c) h81 fun v_82 h83 =>
gd (wantB v_80 false) (fun c => arb (.val (t 21) h83) call c) h83 fun v_84 h85 =>
gd (wantB v_80 false) (fun c => arb (.of (ixsR 1 v_82 v_84) h85) call c) h85 fun v_86 h87 =>
gd (wantB v_80 false) (fun c => arb (.of (ld1 h87 v_86) h87) call c) h87 fun v_88 h89 =>
gd (wantB v_80 false) (fun c => arb (.call F_turn_Turn_Epoch [v_88] h89) call c) h89 fun v_90 h91 =>
gd (wantB v_80 false) (fun c => arb (.of (aBin P .neq 3 (.tmp 283) (.const (.int .i64 1)) v_90 (.int .i64 1)) h91) call c) h91 fun v_92 h93 =>
arb (pkR v_80 (.bool true) v_92 h93) call fun v_94 h95 =>
cb v_94 (
arb (.val (.bool false) h95) call fun v_96 h97 =>
k .ret (upd (upd (upd (upd (upd (upd (upd (upd (upd (upd (upd (upd (upd (upd (upd (upd (upd (upd (upd (upd (upd (upd (upd (upd (upd (upd (upd t 263 v_44) 264 v_46) 265 v_48) 266 v_50) 267 v_52) 262 v_54) 268 v_56) 269 v_58) 24 v_60) 25 ok_62) 270 v_64) 271 v_66) 272 v_68) 273 v_70) 274 v_72) 275 v_74) 276 v_76) 277 v_78) 278 v_80) 279 v_82) 280 v_84) 281 v_86) 282 v_88) 283 v_90) 284 v_92) 285 v_94) 4 v_96) h97) (
k .normal (upd (upd (upd (upd (upd (upd (upd (upd (upd (upd (upd (upd (upd (upd (upd (upd (upd (upd (upd (upd (upd (upd (upd (upd (upd (upd t 263 v_44) 264 v_46) 265 v_48) 266 v_50) 267 v_52) 262 v_54) 268 v_56) 269 v_58) 24 v_60) 25 ok_62) 270 v_64) 271 v_66) 272 v_68) 273 v_70) 274 v_72) 275 v_74) 276 v_76) 277 v_78) 278 v_80) 279 v_82) 280 v_84) 281 v_86) 282 v_88) 283 v_90) 284 v_92) 285 v_94) h95)

def J_precentorlaw21_TurnWaits_5 (P : Program) (call : FuncId → List AVal → Heap → Res AVal) (fuel : Nat) (k : Kn (Ex × T)) (t : T) (h : Heap) : Res (Ex × T) :=
lt (sqK (J_precentorlaw21_TurnWaits_6 P call fuel k) k) fun k42 =>
lt (blkK 9 k42) fun k43 =>
lt (sqK (J_precentorlaw21_TurnWaits_7 P call fuel k43) k43) fun k98 =>
arb (.val (t 7) h) call fun v_99 h100 =>
arb (.val (t 21) h100) call fun v_101 h102 =>
arb (.of (ixsR 1 v_99 v_101) h102) call fun v_103 h104 =>
arb (.of (ld1 h104 v_103) h104) call fun v_105 h106 =>
arb (.call F_turn_Turn_Open [v_105, (.int .i64 1)] h106) call fun v_107 h108 =>
arb (.val v_107 h108) call fun v_109 h110 =>
arb (extR v_109 0 h110) call fun v_111 h112 =>
arb (extR v_109 1 h112) call fun v_113 h114 =>
arb (.val v_111 h114) call fun x_115 h116 =>
arb (.val v_113 h116) call fun ok_117 h118 =>
arb (.val ok_117 h118) call fun v_119 h120 =>
arb (.of (aUn P .not v_119) h120) call fun v_121 h122 =>
arb (.val v_121 h122) call fun v_123 h124 =>
gd (wantB v_123 false) (fun c => arb (.val x_115 h124) call c) h124 fun v_125 h126 =>
gd (wantB v_123 false) (fun c => arb (.of (lenL v_125) h126) call c) h126 fun v_127 h128 =>
gd (wantB v_123 false) (fun c => arb (.of (aBin P .gtr 3 (.tmp 259) (.const (.int .i64 0)) v_127 (.int .i64 0)) h128) call c) h128 fun v_129 h130 =>
arb (pkR v_123 (.bool true) v_129 h130) call fun v_131 h132 =>
cb v_131 (
arb (.val (.bool false) h132) call fun v_133 h134 =>
k98 .ret (upd (upd (upd (upd (upd (upd (upd (upd (upd (upd (upd (upd (upd (upd (upd (upd (upd (upd t 248 v_99) 249 v_101) 250 v_103) 251 v_105) 252 v_107) 247 v_109) 253 v_111) 254 v_113) 22 x_115) 23 ok_117) 255 v_119) 256 v_121) 257 v_123) 258 v_125) 259 v_127) 260 v_129) 261 v_131) 4 v_133) h134) (
k98 .normal (upd (upd (upd (upd (upd (upd (upd (upd (upd (upd (upd (upd (upd (upd (upd (upd (upd t 248 v_99) 249 v_101) 250 v_103) 251 v_105) 252 v_107) 247 v_109) 253 v_111) 254 v_113) 22 x_115) 23 ok_117) 255 v_119) 256 v_121) 257 v_123) 258 v_125) 259 v_127) 260 v_129) 261 v_131) h132)

def L_precentorlaw21_TurnWaits_4 (P : Program) (call : FuncId → List AVal → Heap → Res AVal) (fuel : Nat) (t : T) (h : Heap) : Res (Ex × T) :=
lt okK fun k =>
lt (sqK (J_precentorlaw21_TurnWaits_5 P call fuel k) k) fun k135 =>
arb (.val (t 21) h) call fun v_136 h137 =>
arb (.val (t 6) h137) call fun v_138 h139 =>
arb (.of (lenL v_138) h139) call fun v_140 h141 =>
arb (.of (aBin P .leq 3 (.tmp 241) (.tmp 243) v_136 v_140) h141) call fun v_142 h143 =>
cb v_142 (
k135 .normal (upd (upd (upd (upd t 241 v_136) 242 v_138) 243 v_140) 244 v_142) h143) (
k135 (.exit 8) (upd (upd (upd (upd t 241 v_136) 242 v_138) 243 v_140) 244 v_142) h143)

def J_precentorlaw21_TurnWaits_2 (P : Program) (call : FuncId → List AVal → Heap → Res AVal) (fuel : Nat) (k : Kn (AVal)) (t : T) (h : Heap) : Res (AVal) :=
lt (sqK (J_precentorlaw21_TurnWaits_3 P call fuel k) k) fun k22 =>
arb (.val (t 7) h) call fun v_23 h24 =>
arb (.of (ixsR 1 v_23 (.int .i64 0)) h24) call fun v_25 h26 =>
arb (.of (ld1 h26 v_25) h26) call fun v_27 h28 =>
arb (.call F_turn_Turn_Epoch [v_27] h28) call fun v_29 h30 =>
arb (.of (aBin P .eql 3 (.tmp 239) (.const (.int .i64 1)) v_29 (.int .i64 1)) h30) call fun v_31 h32 =>
cb v_31 (
arb (.val (.int .i64 1) h32) call fun b_33 h34 =>
lt (blkK 8 k22) fun k35 =>
(loopN (L_precentorlaw21_TurnWaits_4 P call fuel) fuel (upd (upd (upd (upd (upd (upd t 236 v_23) 237 v_25) 238 v_27) 239 v_29) 240 v_31) 21 b_33) h34).bind (lpK k35)) (
k22 .normal (upd (upd (upd (upd (upd t 236 v_23) 237 v_25) 238 v_27) 239 v_29) 240 v_31) h32)

def J_precentorlaw21_TurnWaits_10 (P : Program) (call : FuncId → List AVal → Heap → Res AVal) (fuel : Nat) (k : Kn (Ex × T)) (t : T) (h : Heap) : Res (Ex × T) :=
arb (.val (t 13) h) call fun v_148 h149 =>
arb (.of (aBin P .add 3 (.tmp 93) (.const (.int .i64 1)) v_148 (.int .i64 1)) h149) call fun v_150 h151 =>
arb (.val v_150 h151) call fun i_152 h153 =>
k .normal (upd (upd (upd t 93 v_148) 94 v_150) 13 i_152) h153

def J_precentorlaw21_TurnWaits_15 (P : Program) (call : FuncId → List AVal → Heap → Res AVal) (fuel : Nat) (k : Kn (Ex × T)) (t : T) (h : Heap) : Res (Ex × T) :=
arb (.val (t 14) h) call fun v_212 h213 =>
arb (.of (aBin P .eql 3 (.tmp 220) (.const (.int .i64 0)) v_212 (.int .i64 0)) h213) call fun v_214 h215 =>
cb v_214 (
arb (.val (t 7) h215) call fun v_216 h217 =>
arb (.of (ixsR 1 v_216 (.int .i64 0)) h217) call fun v_218 h219 =>
arb (.of (ld1 h219 v_218) h219) call fun v_220 h221 =>
arb (.call F_turn_Turn_Open [v_220, (.int .i64 1)] h221) call fun v_222 h223 =>
arb (.val v_222 h223) call fun v_224 h225 =>
arb (extR v_224 0 h225) call fun v_226 h227 =>
arb (extR v_224 1 h227) call fun v_228 h229 =>
arb (.val v_226 h229) call fun x_230 h231 =>
arb (.val v_228 h231) call fun ok_232 h233 =>
arb (.val ok_232 h233) call fun v_234 h235 =>
arb (.of (aUn P .not v_234) h235) call fun v_236 h237 =>
arb (.val v_236 h237) call fun v_238 h239 =>
gd (wantB v_238 false) (fun c => arb (.val x_230 h239) call c) h239 fun v_240 h241 =>
gd (wantB v_238 false) (fun c => arb (.of (lenL v_240) h241) call c) h241 fun v_242 h243 =>
gd (wantB v_238 false) (fun c => arb (.of (aBin P .neq 3 (.tmp 233) (.const (.int .i64 1)) v_242 (.int .i64 1)) h243) call c) h243 fun v_244 h245 =>
arb (pkR v_238 (.bool true) v_244 h245) call fun v_246 h247 =>
cb v_246 (
arb (.val (.bool false) h247) call fun v_248 h249 =>
k .ret (upd (upd (upd (upd (upd (upd (upd (upd (upd (upd (upd (upd (upd (upd (upd (upd (upd (upd (upd t 220 v_212) 221 v_214) 223 v_216) 224 v_218) 225 v_220) 226 v_222) 222 v_224) 227 v_226) 228 v_228) 19 x_230) 20 ok_232) 229 v_234) 230 v_236) 231 v_238) 232 v_240) 233 v_242) 234 v_244) 235 v_246) 4 v_248) h249) (
k .normal (upd (upd (upd (upd (upd (upd (upd (upd (upd (upd (upd (upd (upd (upd (upd (upd (upd (upd t 220 v_212) 221 v_214) 223 v_216) 224 v_218) 225 v_220) 226 v_222) 222 v_224) 227 v_226) 228 v_228) 19 x_230) 20 ok_232) 229 v_234) 230 v_236) 231 v_238) 232 v_240) 233 v_242) 234 v_244) 235 v_246) h247)) (
k .normal (upd (upd t 220 v_212) 221 v_214) h215)

def J_precentorlaw21_TurnWaits_14 (P : Program) (call : FuncId → List AVal → Heap → Res AVal) (fuel : Nat) (k : Kn (Ex × T)) (t : T) (h : Heap) : Res (Ex × T) :=
lt (sqK (J_precentorlaw21_TurnWaits_15 P call fuel k) k) fun k250 =>
arb (.val (t 14) h) call fun v_251 h252 =>
arb (.of (aBin P .gtr 3 (.tmp 201) (.const (.int .i64 0)) v_251 (.int .i64 0)) h252) call fun v_253 h254 =>
arb (.val v_253 h254) call fun v_255 h256 =>
gd (wantB v_255 true) (fun c => arb (.val (t 7) h256) call c) h256 fun v_257 h258 =>
gd (wantB v_255 true) (fun c => arb (.val (t 15) h258) call c) h258 fun v_259 h260 =>
gd (wantB v_255 true) (fun c => arb (.of (ixsR 1 v_257 v_259) h260) call c) h260 fun v_261 h262 =>
gd (wantB v_255 true) (fun c => arb (.of (ld1 h262 v_261) h262) call c) h262 fun v_263 h264 =>
gd (wantB v_255 true) (fun c => arb (.val (t 14) h264) call c) h264 fun v_265 h266 =>
gd (wantB v_255 true) (fun c => arb (.call F_turn_Turn_Quiet [v_263, v_265, (.int .i64 0)] h266) call c) h266 fun v_267 h268 =>
gd (wantB v_255 true) (fun c => arb (.of (aUn P .not v_267) h268) call c) h268 fun v_269 h270 =>
gd (wantB v_255 true) (fun c => arb (.val v_269 h270) call c) h270 fun v_271 h272 =>
gd (wantB v_271 false) (fun c => arb (.val (t 7) h272) call c) h272 fun v_273 h274 =>
gd (wantB v_271 false) (fun c => arb (.val (t 15) h274) call c) h274 fun v_275 h276 =>
gd (wantB v_271 false) (fun c => arb (.of (ixsR 1 v_273 v_275) h276) call c) h276 fun v_277 h278 =>
gd (wantB v_271 false) (fun c => arb (.of (ld1 h278 v_277) h278) call c) h278 fun v_279 h280 =>
gd (wantB v_271 false) (fun c => arb (.val (t 14) h280) call c) h280 fun v_281 h282 =>
gd (wantB v_271 false) (fun c => arb (.call F_turn_Turn_Quiet [v_279, v_281, (.int .i64 0)] h282) call c) h282 fun v_283 h284 =>
gd (wantB v_255 true) (fun c => arb (pkR v_271 (.bool true) v_283 h284) call c) h284 fun v_285 h286 =>
arb (pkR v_255 v_285 (.bool false) h286) call fun v_287 h288 =>
cb v_287 (
arb (.val (.bool false) h288) call fun v_289 h290 =>
k250 .ret (upd (upd (upd (upd (upd (upd (upd (upd (upd (upd (upd (upd (upd (upd (upd (upd (upd (upd (upd (upd t 201 v_251) 202 v_253) 203 v_255) 204 v_257) 205 v_259) 206 v_261) 207 v_263) 208 v_265) 209 v_267) 210 v_269) 211 v_271) 212 v_273) 213 v_275) 214 v_277) 215 v_279) 216 v_281) 217 v_283) 218 v_285) 219 v_287) 4 v_289) h290) (
k250 .normal (upd (upd (upd (upd (upd (upd (upd (upd (upd (upd (upd (upd (upd (upd (upd (upd (upd (upd (upd t 201 v_251) 202 v_253) 203 v_255) 204 v_257) 205 v_259) 206 v_261) 207 v_263) 208 v_265) 209 v_267) 210 v_269) 211 v_271) 212 v_273) 213 v_275) 214 v_277) 215 v_279) 216 v_281) 217 v_283) 218 v_285) 219 v_287) h288)

def J_precentorlaw21_TurnWaits_18 (P : Program) (call : FuncId → List AVal → Heap → Res AVal) (fuel : Nat) (k : Kn (Ex × T)) (t : T) (h : Heap) : Res (Ex × T) :=
arb (.val (t 18) h) call fun v_295 h296 =>
arb (.of (aBin P .add 3 (.tmp 180) (.const (.int .i64 1)) v_295 (.int .i64 1)) h296) call fun v_297 h298 =>
arb (.val v_297 h298) call fun k_299 h300 =>
k .normal (upd (upd (upd t 180 v_295) 181 v_297) 18 k_299) h300

def J_precentorlaw21_TurnWaits_17 (P : Program) (call : FuncId → List AVal → Heap → Res AVal) (fuel : Nat) (k : Kn (Ex × T)) (t : T) (h : Heap) : Res (Ex × T) :=
lt (sqK (J_precentorlaw21_TurnWaits_18 P call fuel k) k) fun k301 =>
lt (blkK 7 k301) fun k302 =>
arb (.val (t 8) h) call fun v_303 h304 =>
arb (.val (t 16) h304) call fun v_305 h306 =>
arb (.val (t 18) h306) call fun v_307 h308 =>
arb (.of (ixsR 1 v_305 v_307) h308) call fun v_309 h310 =>
arb (.of (ld1 h310 v_309) h310) call fun v_311 h312 =>
arb (.of (ixsR 1 v_303 v_311) h312) call fun v_313 h314 =>
arb (.of (ld1 h314 v_313) h314) call fun v_315 h316 =>
arb (.of (aBin P .gtr 3 (.tmp 188) (.const (.int .i64 0)) v_315 (.int .i64 0)) h316) call fun v_317 h318 =>
arb (.val v_317 h318) call fun v_319 h320 =>
gd (wantB v_319 false) (fun c => arb (.val (t 7) h320) call c) h320 fun v_321 h322 =>
gd (wantB v_319 false) (fun c => arb (.val (t 16) h322) call c) h322 fun v_323 h324 =>
gd (wantB v_319 false) (fun c => arb (.val (t 18) h324) call c) h324 fun v_325 h326 =>
gd (wantB v_319 false) (fun c => arb (.of (ixsR 1 v_323 v_325) h326) call c) h326 fun v_327 h328 =>
gd (wantB v_319 false) (fun c => arb (.of (ld1 h328 v_327) h328) call c) h328 fun v_329 h330 =>
gd (wantB v_319 false) (fun c => arb (.of (ixsR 1 v_321 v_329) h330) call c) h330 fun v_331 h332 =>
gd (wantB v_319 false) (fun c => arb (.of (ld1 h332 v_331) h332) call c) h332 fun v_333 h334 =>
gd (wantB v_319 false) (fun c => arb (.call F_turn_Turn_Stopped [v_333] h334) call c) h334 fun v_335 h336 =>
gd (wantB v_319 false) (fun c => arb (.of (aUn P .not v_335) h336) call c) h336 fun v_337 h338 =>
arb (pkR v_319 (.bool true) v_337 h338) call fun v_339 h340 =>
cb v_339 (
arb (.val (.bool false) h340) call fun v_341 h342 =>
k302 .ret (upd (upd (upd (upd (upd (upd (upd (upd (upd (upd (upd (upd (upd (upd (upd (upd (upd (upd (upd (upd t 182 v_303) 183 v_305) 184 v_307) 185 v_309) 186 v_311) 187 v_313) 188 v_315) 189 v_317) 190 v_319) 191 v_321) 192 v_323) 193 v_325) 194 v_327) 195 v_329) 196 v_331) 197 v_333) 198 v_335) 199 v_337) 200 v_339) 4 v_341) h342) (
k302 .normal (upd (upd (upd (upd (upd (upd (upd (upd (upd (upd (upd (upd (upd (upd (upd (upd (upd (upd (upd t 182 v_303) 183 v_305) 184 v_307) 185 v_309) 186 v_311) 187 v_313) 188 v_315) 189 v_317) 190 v_319) 191 v_321) 192 v_323) 193 v_325) 194 v_327) 195 v_329) 196 v_331) 197 v_333) 198 v_335) 199 v_337) 200 v_339) h340)

def L_precentorlaw21_TurnWaits_16 (P : Program) (call : FuncId → List AVal → Heap → Res AVal) (fuel : Nat) (t : T) (h : Heap) : Res (Ex × T) :=
lt okK fun k =>
lt (sqK (J_precentorlaw21_TurnWaits_17 P call fuel k) k) fun k343 =>
arb (.val (t 18) h) call fun v_344 h345 =>
arb (.val (t 16) h345) call fun v_346 h347 =>
arb (.of (lenL v_346) h347) call fun v_348 h349 =>
arb (.of (aBin P .lss 3 (.tmp 176) (.tmp 178) v_344 v_348) h349) call fun v_350 h351 =>
cb v_350 (
k343 .normal (upd (upd (upd (upd t 176 v_344) 177 v_346) 178 v_348) 179 v_350) h351) (
k343 (.exit 6) (upd (upd (upd (upd t 176 v_344) 177 v_346) 178 v_348) 179 v_350) h351)

def J_precentorlaw21_TurnWaits_13 (P : Program) (call : FuncId → List AVal → Heap → Res AVal) (fuel : Nat) (k : Kn (Ex × T)) (t : T) (h : Heap) : Res (Ex × T) :=
lt (sqK (J_precentorlaw21_TurnWaits_14 P call fuel k) k) fun k291 =>
arb (.val (.int .i64 0) h) call fun k_292 h293 =>
lt (blkK 6 k291) fun k294 =>
(loopN (L_precentorlaw21_TurnWaits_16 P call fuel) fuel (upd t 18 k_292) h293).bind (lpK k294)

def J_precentorlaw21_TurnWaits_21 (P : Program) (call : FuncId → List AVal → Heap → Res AVal) (fuel : Nat) (k : Kn (Ex × T)) (t : T) (h : Heap) : Res (Ex × T) :=
arb (.val (t 17) h) call fun v_362 h363 =>
arb (.of (aBin P .add 3 (.tmp 170) (.const (.int .i64 1)) v_362 (.int .i64 1)) h363) call fun v_364 h365 =>
arb (.val v_364 h365) call fun k_366 h367 =>
k .normal (upd (upd (upd t 170 v_362) 171 v_364) 17 k_366) h367

def J_precentorlaw21_TurnWaits_20 (P : Program) (call : FuncId → List AVal → Heap → Res AVal) (fuel : Nat) (k : Kn (Ex × T)) (t : T) (h : Heap) : Res (Ex × T) :=
lt (sqK (J_precentorlaw21_TurnWaits_21 P call fuel k) k) fun k368 =>
lt (blkK 5 k368) fun k369 =>
arb (.val (t 16) h) call fun v_370 h371 =>
arb (.val (t 17) h371) call fun v_372 h373 =>
arb (bslR 1 [(.int .i64 0)] 1 h373 [(0, 1, v_372)]) call fun v_374 h375 =>
arb (appR 1 8 h375 v_370 v_374) call fun v_376 h377 =>
arb (.val v_376 h377) call fun side_378 h379 =>
k369 .normal (upd (upd (upd (upd (upd t 172 v_370) 173 v_372) 174 v_374) 175 v_376) 16 side_378) h379

def L_precentorlaw21_TurnWaits_19 (P : Program) (call : FuncId → List AVal → Heap → Res AVal) (fuel : Nat) (t : T) (h : Heap) : Res (Ex × T) :=
lt okK fun k =>
lt (sqK (J_precentorlaw21_TurnWaits_20 P call fuel k) k) fun k380 =>
arb (.val (t 17) h) call fun v_381 h382 =>
arb (.val (t 6) h382) call fun v_383 h384 =>
arb (.of (lenL v_383) h384) call fun v_385 h386 =>
arb (.of (aBin P .leq 3 (.tmp 166) (.tmp 168) v_381 v_385) h386) call fun v_387 h388 =>
cb v_387 (
k380 .normal (upd (upd (upd (upd t 166 v_381) 167 v_383) 168 v_385) 169 v_387) h388) (
k380 (.exit 4) (upd (upd (upd (upd t 166 v_381) 167 v_383) 168 v_385) 169 v_387) h388)

def J_precentorlaw21_TurnWaits_12 (P : Program) (call : FuncId → List AVal → Heap → Res AVal) (fuel : Nat) (k : Kn (Ex × T)) (t : T) (h : Heap) : Res (Ex × T) :=
obv (.val (t 7) h) fun v_176 =>
obv (.val (t 14) h) fun v_178 =>
obv (.of (ixsR 1 v_176 v_178) h) fun v_180 =>
obv (.of (ld1 h v_180) h) fun v_182 => ifb true <|
obv (.val (t 8) h) fun v_184 =>
obv (.val (t 14) h) fun v_186 =>
obv (.of (ixsR 1 v_184 v_186) h) fun v_188 =>
obv (.of (ld1 h v_188) h) fun v_190 => ifb true <|
obv (.of (aBin P .gtr 3 (.tmp 154) (.const (.int .i64 0)) v_190 (.int .i64 0)) h) fun v_192 =>
arbE (.call F_turn_Turn_Ready [v_182, v_192] h) call fun v_194 h195 => lt h195 fun g195 => ifb (true && true) <|
cb v_194 (
arb (.val (t 6) g195) call fun v_196 h197 =>
arb (.val (t 15) h197) call fun v_198 h199 =>
arb (.val (t 14) h199) call fun v_200 h201 =>
arb (.call F_tree_Side [v_196, v_198, v_200] h201) call fun v_202 h203 =>
arb (.val (t 14) h203) call fun v_204 h205 =>
arb (bslR 1 [(.int .i64 0)] 1 h205 [(0, 1, v_204)]) call fun v_206 h207 =>
arb (appR 1 8 h207 v_202 v_206) call fun v_208 h209 =>
arb (.val v_208 h209) call fun side_210 h211 =>
lt (sqK (J_precentorlaw21_TurnWaits_13 P call fuel k) k) fun k352 =>
arb (.val (t 14) h211) call fun v_353 h354 =>
arb (.of (aBin P .eql 3 (.tmp 164) (.const (.int .i64 0)) v_353 (.int .i64 0)) h354) call fun v_355 h356 =>
cb v_355 (
arb (.val .nils h356) call fun side_357 h358 =>
arb (.val (.int .i64 0) h358) call fun k_359 h360 =>
lt (blkK 4 k352) fun k361 =>
(loopN (L_precentorlaw21_TurnWaits_19 P call fuel) fuel (upd (upd (upd (upd (upd (upd (upd (upd (upd (upd (upd (upd (upd (upd (upd (upd (upd (upd (upd (upd (upd (upd t 147 v_176) 148 v_178) 149 v_180) 150 v_182) 151 v_184) 152 v_186) 153 v_188) 154 v_190) 155 v_192) 156 v_194) 157 v_196) 158 v_198) 159 v_200) 160 v_202) 161 v_204) 162 v_206) 163 v_208) 16 side_210) 164 v_353) 165 v_355) 16 side_357) 17 k_359) h360).bind (lpK k361)) (
k352 .normal (upd (upd (upd (upd (upd (upd (upd (upd (upd (upd (upd (upd (upd (upd (upd (upd (upd (upd (upd (upd t 147 v_176) 148 v_178) 149 v_180) 150 v_182) 151 v_184) 152 v_186) 153 v_188) 154 v_190) 155 v_192) 156 v_194) 157 v_196) 158 v_198) 159 v_200) 160 v_202) 161 v_204) 162 v_206) 163 v_208) 16 side_210) 164 v_353) 165 v_355) h356)) (
k .normal (upd (upd (upd (upd (upd (upd (upd (upd (upd (upd t 147 v_176) 148 v_178) 149 v_180) 150 v_182) 151 v_184) 152 v_186) 153 v_188) 154 v_190) 155 v_192) 156 v_194) g195)

def J_precentorlaw21_TurnWaits_11 (P : Program) (call : FuncId → List AVal → Heap → Res AVal) (fuel : Nat) (k : Kn (Ex × T)) (t : T) (h : Heap) : Res (Ex × T) :=
lt (sqK (J_precentorlaw21_TurnWaits_12 P call fuel k) k) fun k389 =>
arb (.val (t 8) h) call fun v_390 h391 =>
arb (.val (t 14) h391) call fun v_392 h393 =>
arb (.of (ixsR 1 v_390 v_392) h393) call fun v_394 h395 =>
arb (.of (ld1 h395 v_394) h395) call fun v_396 h397 =>
arb (.of (aBin P .gtr 3 (.tmp 134) (.const (.int .i64 0)) v_396 (.int .i64 0)) h397) call fun v_398 h399 =>
arb (.val v_398 h399) call fun v_400 h401 =>
gd (wantB v_400 true) (fun c => arb (.val (t 5) h401) call c) h401 fun v_402 h403 =>
gd (wantB v_400 true) (fun c => arb (.call F_precentorhand_Feed_Next [v_402, (.int .i64 2)] h403) call c) h403 fun v_404 h405 =>
gd (wantB v_400 true) (fun c => arb (.of (aBin P .eql 3 (.tmp 138) (.const (.int .i64 0)) v_404 (.int .i64 0)) h405) call c) h405 fun v_406 h407 =>
arb (pkR v_400 v_406 (.bool false) h407) call fun v_408 h409 =>
cb v_408 (
arb (.val (t 8) h409) call fun v_410 h411 =>
arb (.val (t 14) h411) call fun v_412 h413 =>
arb (.of (ixsR 1 v_410 v_412) h413) call fun v_414 h415 =>
arb (.of (ld1 h415 v_414) h415) call fun v_416 h417 =>
arb (.of (aBin P .sub 3 (.tmp 144) (.const (.int .i64 1)) v_416 (.int .i64 1)) h417) call fun v_418 h419 =>
arb (.of (ixsR 1 v_410 v_412) h419) call fun v_420 h421 =>
arb (stR 1 h421 v_420 v_418) call fun v_422 h423 =>
k389 .normal (upd (upd (upd (upd (upd (upd (upd (upd (upd (upd (upd (upd (upd (upd (upd (upd t 131 v_390) 132 v_392) 133 v_394) 134 v_396) 135 v_398) 136 v_400) 137 v_402) 138 v_404) 139 v_406) 140 v_408) 141 v_410) 142 v_412) 143 v_414) 144 v_416) 145 v_418) 146 v_420) h423) (
k389 .normal (upd (upd (upd (upd (upd (upd (upd (upd (upd (upd t 131 v_390) 132 v_392) 133 v_394) 134 v_396) 135 v_398) 136 v_400) 137 v_402) 138 v_404) 139 v_406) 140 v_408) h409)

def J_precentorlaw21_TurnWaits_9 (P : Program) (call : FuncId → List AVal → Heap → Res AVal) (fuel : Nat) (k : Kn (Ex × T)) (t : T) (h : Heap) : Res (Ex × T) :=
lt (sqK (J_precentorlaw21_TurnWaits_10 P call fuel k) k) fun k154 =>
lt (blkK 3 k154) fun k155 =>
arb (.val (t 5) h) call fun v_156 h157 =>
arb (.val (t 6) h157) call fun v_158 h159 =>
arb (.of (lenL v_158) h159) call fun v_160 h161 =>
arb (.of (aBin P .add 3 (.tmp 97) (.const (.int .i64 1)) v_160 (.int .i64 1)) h161) call fun v_162 h163 =>
arb (.call F_precentorhand_Feed_Next [v_156, v_162] h163) call fun v_164 h165 =>
arb (.val v_164 h165) call fun b_166 h167 =>
arb (.val (t 6) h167) call fun v_168 h169 =>
arb (.val b_166 h169) call fun v_170 h171 =>
arb (.call F_tree_Next [v_168, v_170, (.int .i64 0)] h171) call fun v_172 h173 =>
arb (.val v_172 h173) call fun up_174 h175 =>
lt (sqK (J_precentorlaw21_TurnWaits_11 P call fuel k155) k155) fun k424 =>
arb (.val b_166 h175) call fun v_425 h426 =>
arb (.of (aBin P .gtr 3 (.tmp 103) (.const (.int .i64 0)) v_425 (.int .i64 0)) h426) call fun v_427 h428 =>
arb (.val v_427 h428) call fun v_429 h430 =>
gd (wantB v_429 true) (fun c => arb (.val (t 7) h430) call c) h430 fun v_431 h432 =>
gd (wantB v_429 true) (fun c => arb (.val b_166 h432) call c) h432 fun v_433 h434 =>
gd (wantB v_429 true) (fun c => arb (.of (ixsR 1 v_431 v_433) h434) call c) h434 fun v_435 h436 =>
gd (wantB v_429 true) (fun c => arb (.of (ld1 h436 v_435) h436) call c) h436 fun v_437 h438 =>
gd (wantB v_429 true) (fun c => arb (.call F_turn_Turn_Stopped [v_437] h438) call c) h438 fun v_439 h440 =>
gd (wantB v_429 true) (fun c => arb (.of (aUn P .not v_439) h440) call c) h440 fun v_441 h442 =>
arb (pkR v_429 v_441 (.bool false) h442) call fun v_443 h444 =>
arb (.val v_443 h444) call fun v_445 h446 =>
gd (wantB v_445 true) (fun c => arb (.val (t 7) h446) call c) h446 fun v_447 h448 =>
gd (wantB v_445 true) (fun c => arb (.val up_174 h448) call c) h448 fun v_449 h450 =>
gd (wantB v_445 true) (fun c => arb (.of (ixsR 1 v_447 v_449) h450) call c) h450 fun v_451 h452 =>
gd (wantB v_445 true) (fun c => arb (.of (ld1 h452 v_451) h452) call c) h452 fun v_453 h454 =>
gd (wantB v_445 true) (fun c => arb (.call F_turn_Turn_Stopped [v_453] h454) call c) h454 fun v_455 h456 =>
arb (pkR v_445 v_455 (.bool false) h456) call fun v_457 h458 =>
arb (.val v_457 h458) call fun v_459 h460 =>
gd (wantB v_459 true) (fun c => arb (.val (t 5) h460) call c) h460 fun v_461 h462 =>
gd (wantB v_459 true) (fun c => arb (.call F_precentorhand_Feed_Next [v_461, (.int .i64 2)] h462) call c) h462 fun v_463 h464 =>
gd (wantB v_459 true) (fun c => arb (.of (aBin P .eql 3 (.tmp 122) (.const (.int .i64 0)) v_463 (.int .i64 0)) h464) call c) h464 fun v_465 h466 =>
arb (pkR v_459 v_465 (.bool false) h466) call fun v_467 h468 =>
cb v_467 (
arb (.val (t 7) h468) call fun v_469 h470 =>
arb (.val b_166 h470) call fun v_471 h472 =>
arb (.of (ixsR 1 v_469 v_471) h472) call fun v_473 h474 =>
arb (.of (ld1 h474 v_473) h474) call fun v_475 h476 =>
arb (.call F_turn_Turn_Stop [v_475, (.int .i64 0)] h476) call fun v_477 h478 =>
arb (.of (aUn P .not v_477) h478) call fun v_479 h480 =>
cb v_479 (
arb (.val (.bool false) h480) call fun v_481 h482 =>
k424 .ret (upd (upd (upd (upd (upd (upd (upd (upd (upd (upd (upd (upd (upd (upd (upd (upd (upd (upd (upd (upd (upd (upd (upd (upd (upd (upd (upd (upd (upd (upd (upd (upd (upd (upd (upd (upd (upd (upd (upd t 95 v_156) 96 v_158) 97 v_160) 98 v_162) 99 v_164) 14 b_166) 100 v_168) 101 v_170) 102 v_172) 15 up_174) 103 v_425) 104 v_427) 105 v_429) 106 v_431) 107 v_433) 108 v_435) 109 v_437) 110 v_439) 111 v_441) 112 v_443) 113 v_445) 114 v_447) 115 v_449) 116 v_451) 117 v_453) 118 v_455) 119 v_457) 120 v_459) 121 v_461) 122 v_463) 123 v_465) 124 v_467) 125 v_469) 126 v_471) 127 v_473) 128 v_475) 129 v_477) 130 v_479) 4 v_481) h482) (
k424 .normal (upd (upd (upd (upd (upd (upd (upd (upd (upd (upd (upd (upd (upd (upd (upd (upd (upd (upd (upd (upd (upd (upd (upd (upd (upd (upd (upd (upd (upd (upd (upd (upd (upd (upd (upd (upd (upd (upd t 95 v_156) 96 v_158) 97 v_160) 98 v_162) 99 v_164) 14 b_166) 100 v_168) 101 v_170) 102 v_172) 15 up_174) 103 v_425) 104 v_427) 105 v_429) 106 v_431) 107 v_433) 108 v_435) 109 v_437) 110 v_439) 111 v_441) 112 v_443) 113 v_445) 114 v_447) 115 v_449) 116 v_451) 117 v_453) 118 v_455) 119 v_457) 120 v_459) 121 v_461) 122 v_463) 123 v_465) 124 v_467) 125 v_469) 126 v_471) 127 v_473) 128 v_475) 129 v_477) 130 v_479) h480)) (
k424 .normal (upd (upd (upd (upd (upd (upd (upd (upd (upd (upd (upd (upd (upd (upd (upd (upd (upd (upd (upd (upd (upd (upd (upd (upd (upd (upd (upd (upd (upd (upd (upd (upd t 95 v_156) 96 v_158) 97 v_160) 98 v_162) 99 v_164) 14 b_166) 100 v_168) 101 v_170) 102 v_172) 15 up_174) 103 v_425) 104 v_427) 105 v_429) 106 v_431) 107 v_433) 108 v_435) 109 v_437) 110 v_439) 111 v_441) 112 v_443) 113 v_445) 114 v_447) 115 v_449) 116 v_451) 117 v_453) 118 v_455) 119 v_457) 120 v_459) 121 v_461) 122 v_463) 123 v_465) 124 v_467) h468)

def L_precentorlaw21_TurnWaits_8 (P : Program) (call : FuncId → List AVal → Heap → Res AVal) (fuel : Nat) (t : T) (h : Heap) : Res (Ex × T) :=
lt okK fun k =>
lt (sqK (J_precentorlaw21_TurnWaits_9 P call fuel k) k) fun k483 =>
arb (.val (t 13) h) call fun v_484 h485 =>
arb (.of (aBin P .lss 3 (.tmp 84) (.const (.int .i64 300)) v_484 (.int .i64 300)) h485) call fun v_486 h487 =>
arb (.val v_486 h487) call fun v_488 h489 =>
gd (wantB v_488 true) (fun c => arb (.val (t 7) h489) call c) h489 fun v_490 h491 =>
gd (wantB v_488 true) (fun c => arb (.of (ixsR 1 v_490 (.int .i64 0)) h491) call c) h491 fun v_492 h493 =>
gd (wantB v_488 true) (fun c => arb (.of (ld1 h493 v_492) h493) call c) h493 fun v_494 h495 =>
gd (wantB v_488 true) (fun c => arb (.call F_turn_Turn_Epoch [v_494] h495) call c) h495 fun v_496 h497 =>
gd (wantB v_488 true) (fun c => arb (.of (aBin P .eql 3 (.tmp 90) (.const (.int .i64 0)) v_496 (.int .i64 0)) h497) call c) h497 fun v_498 h499 =>
arb (pkR v_488 v_498 (.bool false) h499) call fun v_500 h501 =>
cb v_500 (
k483 .normal (upd (upd (upd (upd (upd (upd (upd (upd (upd t 84 v_484) 85 v_486) 86 v_488) 87 v_490) 88 v_492) 89 v_494) 90 v_496) 91 v_498) 92 v_500) h501) (
k483 (.exit 2) (upd (upd (upd (upd (upd (upd (upd (upd (upd t 84 v_484) 85 v_486) 86 v_488) 87 v_490) 88 v_492) 89 v_494) 90 v_496) 91 v_498) 92 v_500) h501)

def J_precentorlaw21_TurnWaits_1 (P : Program) (call : FuncId → List AVal → Heap → Res AVal) (fuel : Nat) (k : Kn (AVal)) (t : T) (h : Heap) : Res (AVal) :=
lt (sqK (J_precentorlaw21_TurnWaits_2 P call fuel k) k) fun k144 =>
arb (.val (.int .i64 0) h) call fun i_145 h146 =>
lt (blkK 2 k144) fun k147 =>
(loopN (L_precentorlaw21_TurnWaits_8 P call fuel) fuel (upd t 13 i_145) h146).bind (lpK k147)

def J_precentorlaw21_TurnWaits_0 (P : Program) (call : FuncId → List AVal → Heap → Res AVal) (fuel : Nat) (k : Kn (AVal)) (t : T) (h : Heap) : Res (AVal) :=
lt (sqK (J_precentorlaw21_TurnWaits_1 P call fuel k) k) fun k502 =>
arb (.call F_precentorlaw21_known [] h) call fun v_503 h504 =>
arb (.of (aUn P .not v_503) h504) call fun v_505 h506 =>
arb (.val v_505 h506) call fun v_507 h508 =>
gd (wantB v_507 false) (fun c => arb (.val (t 7) h508) call c) h508 fun v_509 h510 =>
gd (wantB v_507 false) (fun c => arb (.of (ixsR 1 v_509 (.int .i64 0)) h510) call c) h510 fun v_511 h512 =>
gd (wantB v_507 false) (fun c => arb (.of (ld1 h512 v_511) h512) call c) h512 fun v_513 h514 =>
gd (wantB v_507 false) (fun c => arb (.of (bldR [(.int .i64 0), (.int .i64 0), (.int .i64 0), .nils] [(0, 1, (.int .i64 2)), (2, 1, (.int .i64 1))]) h514) call c) h514 fun v_515 h516 =>
gd (wantB v_507 false) (fun c => arb (.of (bldR [(.bool false), (.int .i64 0), (.int .i64 0), (.int .i64 0), .nils] [(1, 4, v_515)]) h516) call c) h516 fun v_517 h518 =>
gd (wantB v_507 false) (fun c => arb (.call F_turn_Turn_Add [v_513, v_517] h518) call c) h518 fun v_519 h520 =>
gd (wantB v_507 false) (fun c => arb (.of (aUn P .not v_519) h520) call c) h520 fun v_521 h522 =>
arb (pkR v_507 (.bool true) v_521 h522) call fun v_523 h524 =>
arb (.val v_523 h524) call fun v_525 h526 =>
gd (wantB v_525 false) (fun c => arb (.val (t 7) h526) call c) h526 fun v_527 h528 =>
gd (wantB v_525 false) (fun c => arb (.of (ixsR 1 v_527 (.int .i64 0)) h528) call c) h528 fun v_529 h530 =>
gd (wantB v_525 false) (fun c => arb (.of (ld1 h530 v_529) h530) call c) h530 fun v_531 h532 =>
gd (wantB v_525 false) (fun c => arb (.call F_turn_Turn_Begin [v_531] h532) call c) h532 fun v_533 h534 =>
gd (wantB v_525 false) (fun c => arb (.of (aUn P .not v_533) h534) call c) h534 fun v_535 h536 =>
arb (pkR v_525 (.bool true) v_535 h536) call fun v_537 h538 =>
cb v_537 (
arb (.val (.bool false) h538) call fun v_539 h540 =>
k502 .ret (upd (upd (upd (upd (upd (upd (upd (upd (upd (upd (upd (upd (upd (upd (upd (upd (upd (upd (upd t 66 v_503) 67 v_505) 68 v_507) 69 v_509) 70 v_511) 71 v_513) 72 v_515) 73 v_517) 74 v_519) 75 v_521) 76 v_523) 77 v_525) 78 v_527) 79 v_529) 80 v_531) 81 v_533) 82 v_535) 83 v_537) 4 v_539) h540) (
k502 .normal (upd (upd (upd (upd (upd (upd (upd (upd (upd (upd (upd (upd (upd (upd (upd (upd (upd (upd t 66 v_503) 67 v_505) 68 v_507) 69 v_509) 70 v_511) 71 v_513) 72 v_515) 73 v_517) 74 v_519) 75 v_521) 76 v_523) 77 v_525) 78 v_527) 79 v_529) 80 v_531) 81 v_533) 82 v_535) 83 v_537) h538)

def J_precentorlaw21_TurnWaits_24 (P : Program) (call : FuncId → List AVal → Heap → Res AVal) (fuel : Nat) (k : Kn (Ex × T)) (t : T) (h : Heap) : Res (Ex × T) :=
arb (.val (t 9) h) call fun v_545 h546 =>
arb (.of (aBin P .add 3 (.tmp 35) (.const (.int .i64 1)) v_545 (.int .i64 1)) h546) call fun v_547 h548 =>
arb (.val v_547 h548) call fun b_549 h550 =>
k .normal (upd (upd (upd t 35 v_545) 36 v_547) 9 b_549) h550

def J_precentorlaw21_TurnWaits_26 (P : Program) (call : FuncId → List AVal → Heap → Res AVal) (fuel : Nat) (k : Kn (Ex × T)) (t : T) (h : Heap) : Res (Ex × T) :=
arb (.val (t 8) h) call fun v_581 h582 =>
arb (.val (t 12) h582) call fun v_583 h584 =>
arb (bslR 1 [(.int .i64 0)] 1 h584 [(0, 1, v_583)]) call fun v_585 h586 =>
arb (appR 1 8 h586 v_581 v_585) call fun v_587 h588 =>
arb (.val v_587 h588) call fun busy_589 h590 =>
k .normal (upd (upd (upd (upd (upd t 62 v_581) 63 v_583) 64 v_585) 65 v_587) 8 busy_589) h590

def J_precentorlaw21_TurnWaits_25 (P : Program) (call : FuncId → List AVal → Heap → Res AVal) (fuel : Nat) (k : Kn (Ex × T)) (t : T) (h : Heap) : Res (Ex × T) :=
arb (.val (t 7) h) call fun v_569 h570 =>
arb (.val (t 10) h570) call fun v_571 h572 =>
arb (bslR 1 [.nilp] 1 h572 [(0, 1, v_571)]) call fun v_573 h574 =>
arb (appR 1 8 h574 v_569 v_573) call fun v_575 h576 =>
arb (.val v_575 h576) call fun all_577 h578 =>
arb (.val (.int .i64 0) h578) call fun n_579 h580 =>
lt (sqK (J_precentorlaw21_TurnWaits_26 P call fuel k) k) fun k591 =>
arb (.val (t 9) h580) call fun v_592 h593 =>
arb (.val (t 1) h593) call fun v_594 h595 =>
arb (.of (lenL v_594) h595) call fun v_596 h597 =>
arb (.of (aBin P .lss 3 (.tmp 53) (.tmp 55) v_592 v_596) h597) call fun v_598 h599 =>
cb v_598 (
arb (.val (t 1) h599) call fun v_600 h601 =>
arb (.val (t 9) h601) call fun v_602 h603 =>
arb (.of (ixsR 1 v_600 v_602) h603) call fun v_604 h605 =>
arb (.of (ld1 h605 v_604) h605) call fun v_606 h607 =>
arb (.call F_precentorhand_Pick [v_606, (.int .i64 4)] h607) call fun v_608 h609 =>
arb (.val v_608 h609) call fun n_610 h611 =>
k591 .normal (upd (upd (upd (upd (upd (upd (upd (upd (upd (upd (upd (upd (upd (upd (upd (upd t 49 v_569) 50 v_571) 51 v_573) 52 v_575) 7 all_577) 12 n_579) 53 v_592) 54 v_594) 55 v_596) 56 v_598) 57 v_600) 58 v_602) 59 v_604) 60 v_606) 61 v_608) 12 n_610) h611) (
k591 .normal (upd (upd (upd (upd (upd (upd (upd (upd (upd (upd t 49 v_569) 50 v_571) 51 v_573) 52 v_575) 7 all_577) 12 n_579) 53 v_592) 54 v_594) 55 v_596) 56 v_598) h599)

def J_precentorlaw21_TurnWaits_23 (P : Program) (call : FuncId → List AVal → Heap → Res AVal) (fuel : Nat) (k : Kn (Ex × T)) (t : T) (h : Heap) : Res (Ex × T) :=
lt (sqK (J_precentorlaw21_TurnWaits_24 P call fuel k) k) fun k551 =>
lt (blkK 1 k551) fun k552 =>
arb (.val (t 6) h) call fun v_553 h554 =>
arb (.val (t 9) h554) call fun v_555 h556 =>
arb (.call F_turn_New [v_553, v_555] h556) call fun v_557 h558 =>
arb (.val v_557 h558) call fun v_559 h560 =>
arb (extR v_559 0 h560) call fun v_561 h562 =>
arb (extR v_559 1 h562) call fun v_563 h564 =>
arb (.val v_561 h564) call fun t_565 h566 =>
arb (.val v_563 h566) call fun e_567 h568 =>
lt (sqK (J_precentorlaw21_TurnWaits_25 P call fuel k552) k552) fun k612 =>
arb (.val e_567 h568) call fun v_613 h614 =>
arb (.of (aBin P .neq 23 (.tmp 43) (.const (.int .i64 0)) v_613 (.int .i64 0)) h614) call fun v_615 h616 =>
arb (.val v_615 h616) call fun v_617 h618 =>
gd (wantB v_617 false) (fun c => arb (.val t_565 h618) call c) h618 fun v_619 h620 =>
gd (wantB v_617 false) (fun c => arb (.of (aBin P .eql 22 (.tmp 46) (.const (.pointer none)) v_619 .nilp) h620) call c) h620 fun v_621 h622 =>
arb (pkR v_617 (.bool true) v_621 h622) call fun v_623 h624 =>
cb v_623 (
arb (.val (.bool false) h624) call fun v_625 h626 =>
k612 .ret (upd (upd (upd (upd (upd (upd (upd (upd (upd (upd (upd (upd (upd (upd (upd t 38 v_553) 39 v_555) 40 v_557) 37 v_559) 41 v_561) 42 v_563) 10 t_565) 11 e_567) 43 v_613) 44 v_615) 45 v_617) 46 v_619) 47 v_621) 48 v_623) 4 v_625) h626) (
k612 .normal (upd (upd (upd (upd (upd (upd (upd (upd (upd (upd (upd (upd (upd (upd t 38 v_553) 39 v_555) 40 v_557) 37 v_559) 41 v_561) 42 v_563) 10 t_565) 11 e_567) 43 v_613) 44 v_615) 45 v_617) 46 v_619) 47 v_621) 48 v_623) h624)

def L_precentorlaw21_TurnWaits_22 (P : Program) (call : FuncId → List AVal → Heap → Res AVal) (fuel : Nat) (t : T) (h : Heap) : Res (Ex × T) :=
lt okK fun k =>
lt (sqK (J_precentorlaw21_TurnWaits_23 P call fuel k) k) fun k627 =>
arb (.val (t 9) h) call fun v_628 h629 =>
arb (.val (t 6) h629) call fun v_630 h631 =>
arb (.of (lenL v_630) h631) call fun v_632 h633 =>
arb (.of (aBin P .leq 3 (.tmp 31) (.tmp 33) v_628 v_632) h633) call fun v_634 h635 =>
cb v_634 (
k627 .normal (upd (upd (upd (upd t 31 v_628) 32 v_630) 33 v_632) 34 v_634) h635) (
k627 (.exit 0) (upd (upd (upd (upd t 31 v_628) 32 v_630) 33 v_632) 34 v_634) h635)

def S_precentorlaw21_TurnWaits (P : Program) (call : FuncId → List AVal → Heap → Res AVal) (fuel : Nat) (l_a0 live_a1 : AVal) (h : Heap) : Res AVal :=
lt (retK P [.tmp 4]) fun k =>
arb (.val (.bool false) h) call fun v_0 h1 =>
arb (.val l_a0 h1) call fun v_2 h3 =>
arb (.of (bldR [.nils, (.int .i64 0)] [(0, 1, v_2)]) h3) call fun v_4 h5 =>
arb (boxR v_4 h5) call fun v_6 h7 =>
arb (.val v_6 h7) call fun f_8 h9 =>
arb (.val f_8 h9) call fun v_10 h11 =>
arb (.call F_precentorhand_Feed_Tree [v_10, (.int .i64 6)] h11) call fun v_12 h13 =>
arb (.val v_12 h13) call fun p_14 h15 =>
arb (.val .nils h15) call fun all_16 h17 =>
arb (.val .nils h17) call fun busy_18 h19 =>
lt (sqK (J_precentorlaw21_TurnWaits_0 P call fuel k) k) fun k541 =>
arb (.val (.int .i64 0) h19) call fun b_542 h543 =>
lt (blkK 0 k541) fun k544 =>
(loopN (L_precentorlaw21_TurnWaits_22 P call fuel) fuel (upd (upd (upd (upd (upd (upd (upd (upd (upd (upd (upd (enterT [l_a0, live_a1]) 4 v_0) 26 v_2) 27 v_4) 28 v_6) 5 f_8) 29 v_10) 30 v_12) 6 p_14) 7 all_16) 8 busy_18) 9 b_542) h543).bind (lpK k544)
theorem E_precentorlaw21_TurnWaits (call : FuncId → List AVal → Heap → Res AVal) (fuel : Nat) (l_a0 live_a1 : AVal) (h : Heap) : bodyR Try.prog call fuel Try.f6 [l_a0, live_a1] h = S_precentorlaw21_TurnWaits Try.prog call fuel l_a0 live_a1 h := by kernel_rfl
theorem R_precentorlaw21_TurnWaits {X : XTab} (l_a0 live_a1 : AVal) {h : Heap} {Q : AVal → Heap → Prop} (hx : X F_precentorlaw21_TurnWaits [l_a0, live_a1] = none) (q : Tells (fun m => S_precentorlaw21_TurnWaits Try.prog (acallX Try.prog X m) m l_a0 live_a1 h) Q) :
    Tells (fun m => acallX Try.prog X m F_precentorlaw21_TurnWaits [l_a0, live_a1] h) Q :=
  Tells.later (q.le fun m => (E_precentorlaw21_TurnWaits (acallX Try.prog X m) m l_a0 live_a1 h) ▸ acallX_le Try.func6 hx m h)

/-! ### precentor/precentorlaw21.known -/

def S_precentorlaw21_known (P : Program) (call : FuncId → List AVal → Heap → Res AVal) (fuel : Nat) (h : Heap) : Res AVal :=
lt (retK P [.tmp 0]) fun k =>
arb (.val (.bool false) h) call fun v_0 h1 =>
arb (.call F_precentorlaw21_TurnKnown [] h1) call fun v_2 h3 =>
arb (.val v_2 h3) call fun v_4 h5 =>
k .ret (upd (upd (upd (enterT []) 0 v_0) 1 v_2) 0 v_4) h5
theorem E_precentorlaw21_known (call : FuncId → List AVal → Heap → Res AVal) (fuel : Nat) (h : Heap) : bodyR Try.prog call fuel Try.f17 [] h = S_precentorlaw21_known Try.prog call fuel  h := by kernel_rfl
theorem R_precentorlaw21_known {X : XTab} {h : Heap} {Q : AVal → Heap → Prop} (hx : X F_precentorlaw21_known [] = none) (q : Tells (fun m => S_precentorlaw21_known Try.prog (acallX Try.prog X m) m  h) Q) :
    Tells (fun m => acallX Try.prog X m F_precentorlaw21_known [] h) Q :=
  Tells.later (q.le fun m => (E_precentorlaw21_known (acallX Try.prog X m) m  h) ▸ acallX_le Try.func17 hx m h)


end Go.Proofs.Ytchmlbjjadlleaa
