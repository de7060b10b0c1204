/-
  Functions of precentorlaw22 in the form of YtbolfamaffbnnaaABS (printed by a program of ours, gen.lean).
-/
import Derived.Test.YtbolfamaffbnnaaSIds
set_option linter.unusedVariables false
namespace Go.Proofs.Ytbolfamaffbnnaa
open Go.Ab
/-! ### precentor/precentorlaw22.DeskOne -/
def J_precentorlaw22_DeskOne_1 (P : Program) (call : FuncId → List AVal → Heap → Res AVal) (fuel : Nat) (k : Kn (AVal)) (t : T) (h : Heap) : Res (AVal) :=
arb (.val (.bool true) h) call fun v_18 h19 =>
k .ret (upd t 2 v_18) h19

def J_precentorlaw22_DeskOne_4 (P : Program) (call : FuncId → List AVal → Heap → Res AVal) (fuel : Nat) (k : Kn (Ex × T)) (t : T) (h : Heap) : Res (Ex × T) :=
arb (.val (t 7) h) call fun v_24 h25 =>
arb (.of (aBin P .add 3 (.tmp 32) (.const (.int .i64 1)) v_24 (.int .i64 1)) h25) call fun v_26 h27 =>
arb (.val v_26 h27) call fun i_28 h29 =>
k .normal (upd (upd (upd t 32 v_24) 33 v_26) 7 i_28) h29

def J_precentorlaw22_DeskOne_10 (P : Program) (call : FuncId → List AVal → Heap → Res AVal) (fuel : Nat) (k : Kn (Ex × T)) (t : T) (h : Heap) : Res (Ex × T) :=
arb (.val (t 13) h) call fun v_56 h57 =>
arb (.val v_56 h57) call fun now_58 h59 =>
arb (.val (t 4) h59) call fun v_60 h61 =>
arb (.val now_58 h61) call fun v_62 h63 =>
arb (.call F_desk_Desk_Open [v_60, v_62] h63) call fun v_64 h65 =>
arb (.val (t 4) h65) call fun v_66 h67 =>
arb (.call F_desk_Desk_Busy [v_66] h67) call fun v_68 h69 =>
arb (.of (aBin P .neq 3 (.tmp 128) (.const (.int .i64 0)) v_68 (.int .i64 0)) h69) call fun v_70 h71 =>
cb v_70 (
arb (.val (.bool false) h71) call fun v_72 h73 =>
k .ret (upd (upd (upd (upd (upd (upd (upd (upd (upd t 123 v_56) 5 now_58) 124 v_60) 125 v_62) 126 v_64) 127 v_66) 128 v_68) 129 v_70) 2 v_72) h73) (
k .normal (upd (upd (upd (upd (upd (upd (upd (upd t 123 v_56) 5 now_58) 124 v_60) 125 v_62) 126 v_64) 127 v_66) 128 v_68) 129 v_70) h71)

def J_precentorlaw22_DeskOne_9 (P : Program) (call : FuncId → List AVal → Heap → Res AVal) (fuel : Nat) (k : Kn (Ex × T)) (t : T) (h : Heap) : Res (Ex × T) :=
lt (sqK (J_precentorlaw22_DeskOne_10 P call fuel k) k) fun k74 =>
arb (.of (fadR 0 (t 8)) h) call fun v_75 h76 =>
arb (.of (ld1 h76 v_75) h76) call fun v_77 h78 =>
arb (.of (aUn P .not v_77) h78) call fun v_79 h80 =>
cb v_79 (
arb (.val (t 13) h80) call fun v_81 h82 =>
arb (.of (fadR 1 (t 8)) h82) call fun v_83 h84 =>
arb (.of (ldn 4 h84 v_83) h84) call fun v_85 h86 =>
arb (bslR 4 [(.int .i64 0), (.int .i64 0), (.int .i64 0), .nils] 1 h86 [(0, 4, v_85)]) call fun v_87 h88 =>
arb (appR 4 48 h88 v_81 v_87) call fun v_89 h90 =>
arb (.val v_89 h90) call fun next_91 h92 =>
k74 .normal (upd (upd (upd (upd (upd (upd (upd (upd (upd t 115 v_75) 116 v_77) 117 v_79) 118 v_81) 119 v_83) 120 v_85) 121 v_87) 122 v_89) 13 next_91) h92) (
k74 .normal (upd (upd (upd t 115 v_75) 116 v_77) 117 v_79) h80)

def J_precentorlaw22_DeskOne_13 (P : Program) (call : FuncId → List AVal → Heap → Res AVal) (fuel : Nat) (k : Kn (Ex × T)) (t : T) (h : Heap) : Res (Ex × T) :=
arb (.val (t 14) h) call fun v_97 h98 =>
arb (.of (aBin P .add 3 (.tmp 92) (.const (.int .i64 1)) v_97 (.int .i64 1)) h98) call fun v_99 h100 =>
arb (.val v_99 h100) call fun k_101 h102 =>
k .normal (upd (upd (upd t 92 v_97) 93 v_99) 14 k_101) h102

def J_precentorlaw22_DeskOne_12 (P : Program) (call : FuncId → List AVal → Heap → Res AVal) (fuel : Nat) (k : Kn (Ex × T)) (t : T) (h : Heap) : Res (Ex × T) :=
lt (sqK (J_precentorlaw22_DeskOne_13 P call fuel k) k) fun k103 =>
lt (blkK 3 k103) fun k104 =>
obv (.of (fadR 0 (t 8)) h) fun v_105 =>
obv (.of (ld1 h v_105) h) fun v_106 =>
obv (.of (aUn P .not v_106) h) fun v_107 =>
obv (.val v_107 h) fun v_108 =>
gd (wantB v_108 false) (fun c => obv (.val (t 5) h) fun v => c v h) h fun v_109 h110 =>
gd (wantB v_108 false) (fun c => obv (.val (t 14) h110) fun v => c v h110) h110 fun v_111 h112 =>
gd (wantB v_108 false) (fun c => obv (.of (ixsR 4 v_109 v_111) h112) fun v => c v h112) h112 fun v_113 h114 =>
gd (wantB v_108 false) (fun c => obv (.of (fadR 2 v_113) h114) fun v => c v h114) h114 fun v_115 h116 =>
gd (wantB v_108 false) (fun c => obv (.of (ld1 h116 v_115) h116) fun v => c v h116) h116 fun v_117 h118 =>
gd (wantB v_108 false) (fun c => obv (.of (fadR 1 (t 8)) h118) fun v => c v h118) h118 fun v_119 h120 =>
gd (wantB v_108 false) (fun c => obv (.of (fadR 2 v_119) h120) fun v => c v h120) h120 fun v_121 h122 =>
gd (wantB v_108 false) (fun c => obv (.of (ld1 h122 v_121) h122) fun v => c v h122) h122 fun v_123 h124 =>
gd (wantB v_108 false) (fun c => obv (.of (aBin P .neq 3 (.tmp 102) (.tmp 105) v_117 v_123) h124) fun v => c v h124) h124 fun v_125 h126 =>
obv (pkR v_108 (.bool true) v_125 h126) fun v_127 =>
cb v_127 (
arb (.val (t 13) h126) call fun v_128 h129 =>
arb (.val (t 5) h129) call fun v_130 h131 =>
arb (.val (t 14) h131) call fun v_132 h133 =>
arb (.of (ixsR 4 v_130 v_132) h133) call fun v_134 h135 =>
arb (.of (ldn 4 h135 v_134) h135) call fun v_136 h137 =>
arb (bslR 4 [(.int .i64 0), (.int .i64 0), (.int .i64 0), .nils] 1 h137 [(0, 4, v_136)]) call fun v_138 h139 =>
arb (appR 4 48 h139 v_128 v_138) call fun v_140 h141 =>
arb (.val v_140 h141) call fun next_142 h143 =>
k104 .normal (upd (upd (upd (upd (upd (upd (upd (upd (upd (upd (upd (upd (upd (upd (upd (upd (upd (upd (upd (upd (upd (upd t 94 v_105) 95 v_106) 96 v_107) 97 v_108) 98 v_109) 99 v_111) 100 v_113) 101 v_115) 102 v_117) 103 v_119) 104 v_121) 105 v_123) 106 v_125) 107 v_127) 108 v_128) 109 v_130) 110 v_132) 111 v_134) 112 v_136) 113 v_138) 114 v_140) 13 next_142) h143) (
k104 .normal (upd (upd (upd (upd (upd (upd (upd (upd (upd (upd (upd (upd (upd (upd t 94 v_105) 95 v_106) 96 v_107) 97 v_108) 98 v_109) 99 v_111) 100 v_113) 101 v_115) 102 v_117) 103 v_119) 104 v_121) 105 v_123) 106 v_125) 107 v_127) h126)

def L_precentorlaw22_DeskOne_11 (P : Program) (call : FuncId → List AVal → Heap → Res AVal) (fuel : Nat) (t : T) (h : Heap) : Res (Ex × T) :=
lt okK fun k =>
lt (sqK (J_precentorlaw22_DeskOne_12 P call fuel k) k) fun k144 =>
arb (.val (t 14) h) call fun v_145 h146 =>
arb (.val (t 5) h146) call fun v_147 h148 =>
arb (.of (lenL v_147) h148) call fun v_149 h150 =>
arb (.of (aBin P .lss 3 (.tmp 88) (.tmp 90) v_145 v_149) h150) call fun v_151 h152 =>
cb v_151 (
k144 .normal (upd (upd (upd (upd t 88 v_145) 89 v_147) 90 v_149) 91 v_151) h152) (
k144 (.exit 2) (upd (upd (upd (upd t 88 v_145) 89 v_147) 90 v_149) 91 v_151) h152)

def J_precentorlaw22_DeskOne_8 (P : Program) (call : FuncId → List AVal → Heap → Res AVal) (fuel : Nat) (k : Kn (Ex × T)) (t : T) (h : Heap) : Res (Ex × T) :=
arb (.val .nils h) call fun next_54 h55 =>
lt (sqK (J_precentorlaw22_DeskOne_9 P call fuel k) k) fun k93 =>
arb (.val (.int .i64 0) h55) call fun k_94 h95 =>
lt (blkK 2 k93) fun k96 =>
(loopN (L_precentorlaw22_DeskOne_11 P call fuel) fuel (upd (upd t 13 next_54) 14 k_94) h95).bind (lpK k96)

def J_precentorlaw22_DeskOne_7 (P : Program) (call : FuncId → List AVal → Heap → Res AVal) (fuel : Nat) (k : Kn (Ex × T)) (t : T) (h : Heap) : Res (Ex × T) :=
arb (.val (t 4) h) call fun v_48 h49 =>
arb (.val (t 5) h49) call fun v_50 h51 =>
arb (.call F_desk_Desk_Open [v_48, v_50] h51) call fun v_52 h53 =>
lt (sqK (J_precentorlaw22_DeskOne_8 P call fuel k) k) fun k153 =>
arb (.val (t 4) h53) call fun v_154 h155 =>
arb (.call F_desk_Desk_Busy [v_154] h155) call fun v_156 h157 =>
arb (.of (aBin P .neq 3 (.tmp 86) (.const (.int .i64 1)) v_156 (.int .i64 1)) h157) call fun v_158 h159 =>
cb v_158 (
arb (.val (.bool false) h159) call fun v_160 h161 =>
k153 .ret (upd (upd (upd (upd (upd (upd (upd t 82 v_48) 83 v_50) 84 v_52) 85 v_154) 86 v_156) 87 v_158) 2 v_160) h161) (
k153 .normal (upd (upd (upd (upd (upd (upd t 82 v_48) 83 v_50) 84 v_52) 85 v_154) 86 v_156) 87 v_158) h159)

def J_precentorlaw22_DeskOne_6 (P : Program) (call : FuncId → List AVal → Heap → Res AVal) (fuel : Nat) (k : Kn (Ex × T)) (t : T) (h : Heap) : Res (Ex × T) :=
lt (sqK (J_precentorlaw22_DeskOne_7 P call fuel k) k) fun k162 =>
arb (.val (t 4) h) call fun v_163 h164 =>
arb (.call F_desk_Desk_Subscribe [v_163, (.int .i64 5), .nils] h164) call fun v_165 h166 =>
arb (.val v_165 h166) call fun v_167 h168 =>
arb (extR v_167 0 h168) call fun v_169 h170 =>
arb (extR v_167 1 h170) call fun v_171 h172 =>
arb (newR [(.bool false), (.int .i64 0), (.int .i64 0), (.int .i64 0), .nils] h172) call fun v_173 h174 =>
arb (stR 5 h174 v_173 v_169) call fun v_175 h176 =>
arb (.val v_171 h176) call fun busy_177 h178 =>
arb (.val busy_177 h178) call fun v_179 h180 =>
arb (.of (aBin P .neq 24 (.tmp 80) (.const (.int .i64 7)) v_179 (.int .i64 7)) h180) call fun v_181 h182 =>
cb v_181 (
arb (.val (.bool false) h182) call fun v_183 h184 =>
k162 .ret (upd (upd (upd (upd (upd (upd (upd (upd (upd (upd t 76 v_163) 77 v_165) 75 v_167) 78 v_169) 79 v_171) 11 v_173) 12 busy_177) 80 v_179) 81 v_181) 2 v_183) h184) (
k162 .normal (upd (upd (upd (upd (upd (upd (upd (upd (upd t 76 v_163) 77 v_165) 75 v_167) 78 v_169) 79 v_171) 11 v_173) 12 busy_177) 80 v_179) 81 v_181) h182)

def J_precentorlaw22_DeskOne_5 (P : Program) (call : FuncId → List AVal → Heap → Res AVal) (fuel : Nat) (k : Kn (Ex × T)) (t : T) (h : Heap) : Res (Ex × T) :=
lt (sqK (J_precentorlaw22_DeskOne_6 P call fuel k) k) fun k185 =>
arb (.val (t 9) h) call fun v_186 h187 =>
arb (.of (aBin P .neq 24 (.tmp 68) (.const (.int .i64 0)) v_186 (.int .i64 0)) h187) call fun v_188 h189 =>
arb (.val v_188 h189) call fun v_190 h191 =>
gd (wantB v_190 false) (fun c => arb (.val (t 4) h191) call c) h191 fun v_192 h193 =>
gd (wantB v_190 false) (fun c => arb (.call F_desk_Desk_Busy [v_192] h193) call c) h193 fun v_194 h195 =>
gd (wantB v_190 false) (fun c => arb (.of (aBin P .neq 3 (.tmp 72) (.const (.int .i64 1)) v_194 (.int .i64 1)) h195) call c) h195 fun v_196 h197 =>
arb (pkR v_190 (.bool true) v_196 h197) call fun v_198 h199 =>
cb v_198 (
arb (.val (.bool false) h199) call fun v_200 h201 =>
k185 .ret (upd (upd (upd (upd (upd (upd (upd (upd t 68 v_186) 69 v_188) 70 v_190) 71 v_192) 72 v_194) 73 v_196) 74 v_198) 2 v_200) h201) (
k185 .normal (upd (upd (upd (upd (upd (upd (upd t 68 v_186) 69 v_188) 70 v_190) 71 v_192) 72 v_194) 73 v_196) 74 v_198) h199)

def J_precentorlaw22_DeskOne_14 (P : Program) (call : FuncId → List AVal → Heap → Res AVal) (fuel : Nat) (k : Kn (Ex × T)) (t : T) (h : Heap) : Res (Ex × T) :=
arb (.val (t 5) h) call fun v_209 h210 =>
arb (.val (t 3) h210) call fun v_211 h212 =>
arb (.val (t 5) h212) call fun v_213 h214 =>
arb (.of (lenL v_213) h214) call fun v_215 h216 =>
arb (.call F_precentorhand_Feed_Next [v_211, v_215] h216) call fun v_217 h218 =>
arb (.of (ixsR 4 v_209 v_217) h218) call fun v_219 h220 =>
arb (.of (fadR 2 v_219) h220) call fun v_221 h222 =>
arb (.of (ld1 h222 v_221) h222) call fun v_223 h224 =>
arb (.val v_223 h224) call fun n_225 h226 =>
arb (.val (t 4) h226) call fun v_227 h228 =>
arb (.val n_225 h228) call fun v_229 h230 =>
arb (.call F_desk_Desk_Unsubscribe [v_227, (.int .i64 5), v_229] h230) call fun v_231 h232 =>
arb (.val v_231 h232) call fun v_233 h234 =>
arb (extR v_233 0 h234) call fun v_235 h236 =>
arb (extR v_233 1 h236) call fun v_237 h238 =>
arb (stR 5 h238 (t 8) v_235) call fun v_239 h240 =>
arb (.val v_237 h240) call fun e_241 h242 =>
k .normal (upd (upd (upd (upd (upd (upd (upd (upd (upd (upd (upd (upd (upd (upd (upd (upd t 44 v_209) 45 v_211) 46 v_213) 47 v_215) 48 v_217) 49 v_219) 50 v_221) 51 v_223) 10 n_225) 53 v_227) 54 v_229) 55 v_231) 52 v_233) 56 v_235) 57 v_237) 9 e_241) h242

def J_precentorlaw22_DeskOne_15 (P : Program) (call : FuncId → List AVal → Heap → Res AVal) (fuel : Nat) (k : Kn (Ex × T)) (t : T) (h : Heap) : Res (Ex × T) :=
arb (.val (t 6) h) call fun v_254 h255 =>
arb (.of (aBin P .add 3 (.tmp 66) (.const (.int .i64 1)) v_254 (.int .i64 1)) h255) call fun v_256 h257 =>
arb (.val v_256 h257) call fun last_258 h259 =>
k .normal (upd (upd (upd t 66 v_254) 67 v_256) 6 last_258) h259

def J_precentorlaw22_DeskOne_3 (P : Program) (call : FuncId → List AVal → Heap → Res AVal) (fuel : Nat) (k : Kn (Ex × T)) (t : T) (h : Heap) : Res (Ex × T) :=
lt (sqK (J_precentorlaw22_DeskOne_4 P call fuel k) k) fun k30 =>
lt (blkK 1 k30) fun k31 =>
arb (.val (t 4) h) call fun v_32 h33 =>
arb (.call F_desk_Desk_Subscribe [v_32, (.int .i64 5), .nils] h33) call fun v_34 h35 =>
arb (.val v_34 h35) call fun v_36 h37 =>
arb (extR v_36 0 h37) call fun v_38 h39 =>
arb (extR v_36 1 h39) call fun v_40 h41 =>
arb (newR [(.bool false), (.int .i64 0), (.int .i64 0), (.int .i64 0), .nils] h41) call fun x_42 h43 =>
arb (stR 5 h43 x_42 v_38) call fun v_44 h45 =>
arb (.val v_40 h45) call fun e_46 h47 =>
lt (sqK (J_precentorlaw22_DeskOne_5 P call fuel k31) k31) fun k202 =>
arb (.val (t 5) h47) call fun v_203 h204 =>
arb (.of (lenL v_203) h204) call fun v_205 h206 =>
arb (.of (aBin P .geq 3 (.tmp 40) (.const (.int .i64 3)) v_205 (.int .i64 3)) h206) call fun v_207 h208 =>
cb v_207 (
lt (sqK (J_precentorlaw22_DeskOne_14 P call fuel k202) k202) fun k243 =>
arb (.val e_46 h208) call fun v_244 h245 =>
arb (.of (aBin P .neq 24 (.tmp 42) (.const (.int .i64 6)) v_244 (.int .i64 6)) h245) call fun v_246 h247 =>
cb v_246 (
arb (.val (.bool false) h247) call fun v_248 h249 =>
k243 .ret (upd (upd (upd (upd (upd (upd (upd (upd (upd (upd (upd (upd (upd t 35 v_32) 36 v_34) 34 v_36) 37 v_38) 38 v_40) 8 x_42) 9 e_46) 39 v_203) 40 v_205) 41 v_207) 42 v_244) 43 v_246) 2 v_248) h249) (
k243 .normal (upd (upd (upd (upd (upd (upd (upd (upd (upd (upd (upd (upd t 35 v_32) 36 v_34) 34 v_36) 37 v_38) 38 v_40) 8 x_42) 9 e_46) 39 v_203) 40 v_205) 41 v_207) 42 v_244) 43 v_246) h247)) (
arb (.val e_46 h208) call fun v_250 h251 =>
arb (.of (aBin P .eql 24 (.tmp 58) (.const (.int .i64 0)) v_250 (.int .i64 0)) h251) call fun v_252 h253 =>
cb v_252 (
lt (sqK (J_precentorlaw22_DeskOne_15 P call fuel k202) k202) fun k260 =>
arb (.of (fadR 1 x_42) h253) call fun v_261 h262 =>
arb (.of (fadR 2 v_261) h262) call fun v_263 h264 =>
arb (.of (ld1 h264 v_263) h264) call fun v_265 h266 =>
arb (.val (t 6) h266) call fun v_267 h268 =>
arb (.of (aBin P .add 3 (.tmp 63) (.const (.int .i64 1)) v_267 (.int .i64 1)) h268) call fun v_269 h270 =>
arb (.of (aBin P .neq 3 (.tmp 62) (.tmp 64) v_265 v_269) h270) call fun v_271 h272 =>
cb v_271 (
arb (.val (.bool false) h272) call fun v_273 h274 =>
k260 .ret (upd (upd (upd (upd (upd (upd (upd (upd (upd (upd (upd (upd (upd (upd (upd (upd (upd (upd (upd t 35 v_32) 36 v_34) 34 v_36) 37 v_38) 38 v_40) 8 x_42) 9 e_46) 39 v_203) 40 v_205) 41 v_207) 58 v_250) 59 v_252) 60 v_261) 61 v_263) 62 v_265) 63 v_267) 64 v_269) 65 v_271) 2 v_273) h274) (
k260 .normal (upd (upd (upd (upd (upd (upd (upd (upd (upd (upd (upd (upd (upd (upd (upd (upd (upd (upd t 35 v_32) 36 v_34) 34 v_36) 37 v_38) 38 v_40) 8 x_42) 9 e_46) 39 v_203) 40 v_205) 41 v_207) 58 v_250) 59 v_252) 60 v_261) 61 v_263) 62 v_265) 63 v_267) 64 v_269) 65 v_271) h272)) (
k202 .normal (upd (upd (upd (upd (upd (upd (upd (upd (upd (upd (upd (upd t 35 v_32) 36 v_34) 34 v_36) 37 v_38) 38 v_40) 8 x_42) 9 e_46) 39 v_203) 40 v_205) 41 v_207) 58 v_250) 59 v_252) h253))

def L_precentorlaw22_DeskOne_2 (P : Program) (call : FuncId → List AVal → Heap → Res AVal) (fuel : Nat) (t : T) (h : Heap) : Res (Ex × T) :=
lt okK fun k =>
lt (sqK (J_precentorlaw22_DeskOne_3 P call fuel k) k) fun k275 =>
arb (.val (t 7) h) call fun v_276 h277 =>
arb (.of (aBin P .lss 3 (.tmp 30) (.const (.int .i64 24)) v_276 (.int .i64 24)) h277) call fun v_278 h279 =>
cb v_278 (
k275 .normal (upd (upd t 30 v_276) 31 v_278) h279) (
k275 (.exit 0) (upd (upd t 30 v_276) 31 v_278) h279)

def J_precentorlaw22_DeskOne_0 (P : Program) (call : FuncId → List AVal → Heap → Res AVal) (fuel : Nat) (k : Kn (AVal)) (t : T) (h : Heap) : Res (AVal) :=
arb (.val .nils h) call fun now_14 h15 =>
arb (.val (.int .i64 0) h15) call fun last_16 h17 =>
lt (sqK (J_precentorlaw22_DeskOne_1 P call fuel k) k) fun k20 =>
arb (.val (.int .i64 0) h17) call fun i_21 h22 =>
lt (blkK 0 k20) fun k23 =>
(loopN (L_precentorlaw22_DeskOne_2 P call fuel) fuel (upd (upd (upd t 5 now_14) 6 last_16) 7 i_21) h22).bind (lpK k23)

def S_precentorlaw22_DeskOne (P : Program) (call : FuncId → List AVal → Heap → Res AVal) (fuel : Nat) (l_a0 : AVal) (h : Heap) : Res AVal :=
lt (retK P [.tmp 2]) fun k =>
arb (.val (.bool false) h) call fun v_0 h1 =>
arb (.val l_a0 h1) call fun v_2 h3 =>
arb (.of (bldR [.nils, (.int .i64 0)] [(0, 1, v_2)]) h3) call fun v_4 h5 =>
arb (boxR v_4 h5) call fun v_6 h7 =>
arb (.val v_6 h7) call fun f_8 h9 =>
arb (.call F_desk_New [(.int .i64 1)] h9) call fun v_10 h11 =>
arb (.val v_10 h11) call fun d_12 h13 =>
lt (sqK (J_precentorlaw22_DeskOne_0 P call fuel k) k) fun k280 =>
arb (.call F_precentorlaw22_known [] h13) call fun v_281 h282 =>
arb (.of (aUn P .not v_281) h282) call fun v_283 h284 =>
arb (.val v_283 h284) call fun v_285 h286 =>
gd (wantB v_285 false) (fun c => arb (.val d_12 h286) call c) h286 fun v_287 h288 =>
gd (wantB v_285 false) (fun c => arb (.of (aBin P .eql 22 (.tmp 22) (.const (.pointer none)) v_287 .nilp) h288) call c) h288 fun v_289 h290 =>
arb (pkR v_285 (.bool true) v_289 h290) call fun v_291 h292 =>
arb (.val v_291 h292) call fun v_293 h294 =>
gd (wantB v_293 false) (fun c => arb (.val d_12 h294) call c) h294 fun v_295 h296 =>
gd (wantB v_293 false) (fun c => arb (.call F_desk_Desk_Attach [v_295, (.int .i64 5)] h296) call c) h296 fun v_297 h298 =>
gd (wantB v_293 false) (fun c => arb (.of (aBin P .neq 24 (.tmp 27) (.const (.int .i64 0)) v_297 (.int .i64 0)) h298) call c) h298 fun v_299 h300 =>
arb (pkR v_293 (.bool true) v_299 h300) call fun v_301 h302 =>
cb v_301 (
arb (.val (.bool false) h302) call fun v_303 h304 =>
k280 .ret (upd (upd (upd (upd (upd (upd (upd (upd (upd (upd (upd (upd (upd (upd (upd (upd (upd (upd (upd (enterT [l_a0]) 2 v_0) 15 v_2) 16 v_4) 17 v_6) 3 f_8) 18 v_10) 4 d_12) 19 v_281) 20 v_283) 21 v_285) 22 v_287) 23 v_289) 24 v_291) 25 v_293) 26 v_295) 27 v_297) 28 v_299) 29 v_301) 2 v_303) h304) (
k280 .normal (upd (upd (upd (upd (upd (upd (upd (upd (upd (upd (upd (upd (upd (upd (upd (upd (upd (upd (enterT [l_a0]) 2 v_0) 15 v_2) 16 v_4) 17 v_6) 3 f_8) 18 v_10) 4 d_12) 19 v_281) 20 v_283) 21 v_285) 22 v_287) 23 v_289) 24 v_291) 25 v_293) 26 v_295) 27 v_297) 28 v_299) 29 v_301) h302)
theorem E_precentorlaw22_DeskOne (call : FuncId → List AVal → Heap → Res AVal) (fuel : Nat) (l_a0 : AVal) (h : Heap) : bodyR Try.prog call fuel Try.f4 [l_a0] h = S_precentorlaw22_DeskOne Try.prog call fuel l_a0 h := by kernel_rfl
theorem R_precentorlaw22_DeskOne {X : XTab} (l_a0 : AVal) {h : Heap} {Q : AVal → Heap → Prop} (hx : X F_precentorlaw22_DeskOne [l_a0] = none) (q : Tells (fun m => S_precentorlaw22_DeskOne Try.prog (acallX Try.prog X m) m l_a0 h) Q) :
    Tells (fun m => acallX Try.prog X m F_precentorlaw22_DeskOne [l_a0] h) Q :=
  Tells.later (q.le fun m => (E_precentorlaw22_DeskOne (acallX Try.prog X m) m l_a0 h) ▸ acallX_le Try.func4 hx m h)

/-! ### precentor/precentorlaw22.DeskTells -/
def J_precentorlaw22_DeskTells_2 (P : Program) (call : FuncId → List AVal → Heap → Res AVal) (fuel : Nat) (k : Kn (AVal)) (t : T) (h : Heap) : Res (AVal) :=
arb (.val (t 32) h) call fun v_42 h43 =>
arb (.val (t 31) h43) call fun v_44 h45 =>
arb (.of (lenL v_44) h45) call fun v_46 h47 =>
arb (.of (aBin P .eql 3 (.tmp 258) (.tmp 260) v_42 v_46) h47) call fun v_48 h49 =>
arb (.val v_48 h49) call fun v_50 h51 =>
k .ret (upd (upd (upd (upd (upd t 258 v_42) 259 v_44) 260 v_46) 261 v_48) 6 v_50) h51

def J_precentorlaw22_DeskTells_5 (P : Program) (call : FuncId → List AVal → Heap → Res AVal) (fuel : Nat) (k : Kn (Ex × T)) (t : T) (h : Heap) : Res (Ex × T) :=
arb (.val (t 33) h) call fun v_56 h57 =>
arb (.of (aBin P .add 3 (.tmp 238) (.const (.int .i64 1)) v_56 (.int .i64 1)) h57) call fun v_58 h59 =>
arb (.val v_58 h59) call fun c_60 h61 =>
k .normal (upd (upd (upd t 238 v_56) 239 v_58) 33 c_60) h61

def J_precentorlaw22_DeskTells_7 (P : Program) (call : FuncId → List AVal → Heap → Res AVal) (fuel : Nat) (k : Kn (Ex × T)) (t : T) (h : Heap) : Res (Ex × T) :=
arb (.val (t 32) h) call fun v_64 h65 =>
arb (.of (aBin P .add 3 (.tmp 256) (.const (.int .i64 1)) v_64 (.int .i64 1)) h65) call fun v_66 h67 =>
arb (.val v_66 h67) call fun n_68 h69 =>
k .normal (upd (upd (upd t 256 v_64) 257 v_66) 32 n_68) h69

def J_precentorlaw22_DeskTells_6 (P : Program) (call : FuncId → List AVal → Heap → Res AVal) (fuel : Nat) (k : Kn (Ex × T)) (t : T) (h : Heap) : Res (Ex × T) :=
lt (sqK (J_precentorlaw22_DeskTells_7 P call fuel k) k) fun k70 =>
arb (.val (t 32) h) call fun v_71 h72 =>
arb (.val (t 31) h72) call fun v_73 h74 =>
arb (.of (lenL v_73) h74) call fun v_75 h76 =>
arb (.of (aBin P .geq 3 (.tmp 244) (.tmp 246) v_71 v_75) h76) call fun v_77 h78 =>
arb (.val v_77 h78) call fun v_79 h80 =>
gd (wantB v_79 false) (fun c => arb (.val (t 31) h80) call c) h80 fun v_81 h82 =>
gd (wantB v_79 false) (fun c => arb (.val (t 32) h82) call c) h82 fun v_83 h84 =>
gd (wantB v_79 false) (fun c => arb (.of (ixsR 1 v_81 v_83) h84) call c) h84 fun v_85 h86 =>
gd (wantB v_79 false) (fun c => arb (.of (ld1 h86 v_85) h86) call c) h86 fun v_87 h88 =>
gd (wantB v_79 false) (fun c => arb (.val (t 33) h88) call c) h88 fun v_89 h90 =>
gd (wantB v_79 false) (fun c => arb (.of (aBin P .neq 3 (.tmp 252) (.tmp 253) v_87 v_89) h90) call c) h90 fun v_91 h92 =>
arb (pkR v_79 (.bool true) v_91 h92) call fun v_93 h94 =>
cb v_93 (
arb (.val (.bool false) h94) call fun v_95 h96 =>
k70 .ret (upd (upd (upd (upd (upd (upd (upd (upd (upd (upd (upd (upd (upd t 244 v_71) 245 v_73) 246 v_75) 247 v_77) 248 v_79) 249 v_81) 250 v_83) 251 v_85) 252 v_87) 253 v_89) 254 v_91) 255 v_93) 6 v_95) h96) (
k70 .normal (upd (upd (upd (upd (upd (upd (upd (upd (upd (upd (upd (upd t 244 v_71) 245 v_73) 246 v_75) 247 v_77) 248 v_79) 249 v_81) 250 v_83) 251 v_85) 252 v_87) 253 v_89) 254 v_91) 255 v_93) h94)

def J_precentorlaw22_DeskTells_4 (P : Program) (call : FuncId → List AVal → Heap → Res AVal) (fuel : Nat) (k : Kn (Ex × T)) (t : T) (h : Heap) : Res (Ex × T) :=
lt (sqK (J_precentorlaw22_DeskTells_5 P call fuel k) k) fun k62 =>
lt (blkK 4 k62) fun k63 =>
lt (sqK (J_precentorlaw22_DeskTells_6 P call fuel k63) k63) fun k97 =>
arb (.val (t 9) h) call fun v_98 h99 =>
arb (.val (t 33) h99) call fun v_100 h101 =>
arb (.call F_precentorref14_Desk_Here [v_98, v_100] h101) call fun v_102 h103 =>
arb (.of (aUn P .not v_102) h103) call fun v_104 h105 =>
cb v_104 (
k97 (.exit 4) (upd (upd (upd (upd t 240 v_98) 241 v_100) 242 v_102) 243 v_104) h105) (
k97 .normal (upd (upd (upd (upd t 240 v_98) 241 v_100) 242 v_102) 243 v_104) h105)

def L_precentorlaw22_DeskTells_3 (P : Program) (call : FuncId → List AVal → Heap → Res AVal) (fuel : Nat) (t : T) (h : Heap) : Res (Ex × T) :=
lt okK fun k =>
lt (sqK (J_precentorlaw22_DeskTells_4 P call fuel k) k) fun k106 =>
arb (.val (t 33) h) call fun v_107 h108 =>
arb (.of (aBin P .leq 3 (.tmp 236) (.const (.int .i64 6)) v_107 (.int .i64 6)) h108) call fun v_109 h110 =>
cb v_109 (
k106 .normal (upd (upd t 236 v_107) 237 v_109) h110) (
k106 (.exit 3) (upd (upd t 236 v_107) 237 v_109) h110)

def J_precentorlaw22_DeskTells_1 (P : Program) (call : FuncId → List AVal → Heap → Res AVal) (fuel : Nat) (k : Kn (AVal)) (t : T) (h : Heap) : Res (AVal) :=
arb (.val (t 8) h) call fun v_34 h35 =>
arb (.call F_desk_Desk_Clients [v_34] h35) call fun v_36 h37 =>
arb (.val v_36 h37) call fun here_38 h39 =>
arb (.val (.int .i64 0) h39) call fun n_40 h41 =>
lt (sqK (J_precentorlaw22_DeskTells_2 P call fuel k) k) fun k52 =>
arb (.val (.int .i64 1) h41) call fun c_53 h54 =>
lt (blkK 3 k52) fun k55 =>
(loopN (L_precentorlaw22_DeskTells_3 P call fuel) fuel (upd (upd (upd (upd (upd t 234 v_34) 235 v_36) 31 here_38) 32 n_40) 33 c_53) h54).bind (lpK k55)

def J_precentorlaw22_DeskTells_10 (P : Program) (call : FuncId → List AVal → Heap → Res AVal) (fuel : Nat) (k : Kn (Ex × T)) (t : T) (h : Heap) : Res (Ex × T) :=
arb (.val (t 12) h) call fun v_115 h116 =>
arb (.of (aBin P .add 3 (.tmp 52) (.const (.int .i64 1)) v_115 (.int .i64 1)) h116) call fun v_117 h118 =>
arb (.val v_117 h118) call fun i_119 h120 =>
k .normal (upd (upd (upd t 52 v_115) 53 v_117) 12 i_119) h120

def J_precentorlaw22_DeskTells_12 (P : Program) (call : FuncId → List AVal → Heap → Res AVal) (fuel : Nat) (k : Kn (Ex × T)) (t : T) (h : Heap) : Res (Ex × T) :=
arb (.val (t 8) h) call fun v_131 h132 =>
arb (.val (t 13) h132) call fun v_133 h134 =>
arb (.call F_desk_Desk_Log [v_131, v_133] h134) call fun v_135 h136 =>
arb (.of (lenL v_135) h136) call fun v_137 h138 =>
arb (.val v_137 h138) call fun n_139 h140 =>
arb (.val (t 9) h140) call fun v_141 h142 =>
arb (.val (t 13) h142) call fun v_143 h144 =>
arb (.call F_precentorref14_Desk_Here [v_141, v_143] h144) call fun v_145 h146 =>
arb (.val v_145 h146) call fun v_147 h148 =>
gd (wantB v_147 true) (fun c => arb (.val n_139 h148) call c) h148 fun v_149 h150 =>
gd (wantB v_147 true) (fun c => arb (.val (t 9) h150) call c) h150 fun v_151 h152 =>
gd (wantB v_147 true) (fun c => arb (.val (t 13) h152) call c) h152 fun v_153 h154 =>
gd (wantB v_147 true) (fun c => arb (nckR v_151 h154) call c) h154 fun v_155 h156 =>
gd (wantB v_147 true) (fun c => arb (.of (fadR 1 v_155) h156) call c) h156 fun v_157 h158 =>
gd (wantB v_147 true) (fun c => arb (.of (ixpR 7 11 v_157 v_153) h158) call c) h158 fun v_159 h160 =>
gd (wantB v_147 true) (fun c => arb (.of (fadR 9 v_159) h160) call c) h160 fun v_161 h162 =>
gd (wantB v_147 true) (fun c => arb (.of (ld1 h162 v_161) h162) call c) h162 fun v_163 h164 =>
gd (wantB v_147 true) (fun c => arb (.of (lenL v_163) h164) call c) h164 fun v_165 h166 =>
gd (wantB v_147 true) (fun c => arb (.of (aBin P .neq 3 (.tmp 213) (.tmp 221) v_149 v_165) h166) call c) h166 fun v_167 h168 =>
arb (pkR v_147 v_167 (.bool false) h168) call fun v_169 h170 =>
arb (.val v_169 h170) call fun v_171 h172 =>
gd (wantB v_171 false) (fun c => arb (.val (t 9) h172) call c) h172 fun v_173 h174 =>
gd (wantB v_171 false) (fun c => arb (.val (t 13) h174) call c) h174 fun v_175 h176 =>
gd (wantB v_171 false) (fun c => arb (.call F_precentorref14_Desk_Here [v_173, v_175] h176) call c) h176 fun v_177 h178 =>
gd (wantB v_171 false) (fun c => arb (.of (aUn P .not v_177) h178) call c) h178 fun v_179 h180 =>
gd (wantB v_171 false) (fun c => arb (.val v_179 h180) call c) h180 fun v_181 h182 =>
gd (wantB v_181 true) (fun c => arb (.val n_139 h182) call c) h182 fun v_183 h184 =>
gd (wantB v_181 true) (fun c => arb (.of (aBin P .neq 3 (.tmp 230) (.const (.int .i64 0)) v_183 (.int .i64 0)) h184) call c) h184 fun v_185 h186 =>
gd (wantB v_171 false) (fun c => arb (pkR v_181 v_185 (.bool false) h186) call c) h186 fun v_187 h188 =>
arb (pkR v_171 (.bool true) v_187 h188) call fun v_189 h190 =>
cb v_189 (
arb (.val (.bool false) h190) call fun v_191 h192 =>
k .ret (upd (upd (upd (upd (upd (upd (upd (upd (upd (upd (upd (upd (upd (upd (upd (upd (upd (upd (upd (upd (upd (upd (upd (upd (upd (upd (upd (upd (upd (upd (upd t 205 v_131) 206 v_133) 207 v_135) 208 v_137) 30 n_139) 209 v_141) 210 v_143) 211 v_145) 212 v_147) 213 v_149) 214 v_151) 215 v_153) 216 v_155) 217 v_157) 218 v_159) 219 v_161) 220 v_163) 221 v_165) 222 v_167) 223 v_169) 224 v_171) 225 v_173) 226 v_175) 227 v_177) 228 v_179) 229 v_181) 230 v_183) 231 v_185) 232 v_187) 233 v_189) 6 v_191) h192) (
k .normal (upd (upd (upd (upd (upd (upd (upd (upd (upd (upd (upd (upd (upd (upd (upd (upd (upd (upd (upd (upd (upd (upd (upd (upd (upd (upd (upd (upd (upd (upd t 205 v_131) 206 v_133) 207 v_135) 208 v_137) 30 n_139) 209 v_141) 210 v_143) 211 v_145) 212 v_147) 213 v_149) 214 v_151) 215 v_153) 216 v_155) 217 v_157) 218 v_159) 219 v_161) 220 v_163) 221 v_165) 222 v_167) 223 v_169) 224 v_171) 225 v_173) 226 v_175) 227 v_177) 228 v_179) 229 v_181) 230 v_183) 231 v_185) 232 v_187) 233 v_189) h190)

def J_precentorlaw22_DeskTells_11 (P : Program) (call : FuncId → List AVal → Heap → Res AVal) (fuel : Nat) (k : Kn (Ex × T)) (t : T) (h : Heap) : Res (Ex × T) :=
lt (sqK (J_precentorlaw22_DeskTells_12 P call fuel k) k) fun k193 =>
arb (.val (t 14) h) call fun v_194 h195 =>
arb (.of (aUn P .not v_194) h195) call fun v_196 h197 =>
arb (.val v_196 h197) call fun v_198 h199 =>
gd (wantB v_198 false) (fun c => arb (.val (t 8) h199) call c) h199 fun v_200 h201 =>
gd (wantB v_198 false) (fun c => arb (.call F_desk_Desk_Busy [v_200] h201) call c) h201 fun v_202 h203 =>
gd (wantB v_198 false) (fun c => arb (.val (t 9) h203) call c) h203 fun v_204 h205 =>
gd (wantB v_198 false) (fun c => arb (.call F_precentorref14_Desk_Busy [v_204] h205) call c) h205 fun v_206 h207 =>
gd (wantB v_198 false) (fun c => arb (.of (aBin P .neq 3 (.tmp 200) (.tmp 202) v_202 v_206) h207) call c) h207 fun v_208 h209 =>
arb (pkR v_198 (.bool true) v_208 h209) call fun v_210 h211 =>
cb v_210 (
arb (.val (.bool false) h211) call fun v_212 h213 =>
k193 .ret (upd (upd (upd (upd (upd (upd (upd (upd (upd (upd t 196 v_194) 197 v_196) 198 v_198) 199 v_200) 200 v_202) 201 v_204) 202 v_206) 203 v_208) 204 v_210) 6 v_212) h213) (
k193 .normal (upd (upd (upd (upd (upd (upd (upd (upd (upd t 196 v_194) 197 v_196) 198 v_198) 199 v_200) 200 v_202) 201 v_204) 202 v_206) 203 v_208) 204 v_210) h211)

def J_precentorlaw22_DeskTells_14 (P : Program) (call : FuncId → List AVal → Heap → Res AVal) (fuel : Nat) (k : Kn (Ex × T)) (t : T) (h : Heap) : Res (Ex × T) :=
arb (.val (t 8) h) call fun v_246 h247 =>
arb (.val (t 13) h247) call fun v_248 h249 =>
arb (.val (t 15) h249) call fun v_250 h251 =>
arb (.call F_desk_Desk_Subscribe [v_246, v_248, v_250] h251) call fun v_252 h253 =>
arb (.val v_252 h253) call fun v_254 h255 =>
arb (extR v_254 0 h255) call fun v_256 h257 =>
arb (extR v_254 1 h257) call fun v_258 h259 =>
arb (newR [(.bool false), (.int .i64 0), (.int .i64 0), (.int .i64 0), .nils] h259) call fun a_260 h261 =>
arb (stR 5 h261 a_260 v_256) call fun v_262 h263 =>
arb (.val v_258 h263) call fun e_264 h265 =>
arb (.val (t 9) h265) call fun v_266 h267 =>
arb (.val (t 13) h267) call fun v_268 h269 =>
arb (.val (t 15) h269) call fun v_270 h271 =>
arb (.call F_precentorref14_Desk_Subscribe [v_266, v_268, v_270] h271) call fun v_272 h273 =>
arb (.val v_272 h273) call fun v_274 h275 =>
arb (extR v_274 0 h275) call fun v_276 h277 =>
arb (extR v_274 1 h277) call fun v_278 h279 =>
arb (newR [(.bool false), (.int .i64 0), (.int .i64 0), (.int .i64 0), .nils] h279) call fun b_280 h281 =>
arb (stR 5 h281 b_280 v_276) call fun v_282 h283 =>
arb (.val v_278 h283) call fun g_284 h285 =>
arb (.val e_264 h285) call fun v_286 h287 =>
arb (.val g_284 h287) call fun v_288 h289 =>
arb (.of (aBin P .eql 24 (.tmp 114) (.tmp 115) v_286 v_288) h289) call fun v_290 h291 =>
arb (.val v_290 h291) call fun v_292 h293 =>
gd (wantB v_292 true) (fun c => arb (.of (ldn 5 h293 a_260) h293) call c) h293 fun v_294 h295 =>
gd (wantB v_292 true) (fun c => arb (.of (ldn 5 h295 b_280) h295) call c) h295 fun v_296 h297 =>
gd (wantB v_292 true) (fun c => arb (.call F_precentorlaw22_sameChange [v_294, v_296] h297) call c) h297 fun v_298 h299 =>
arb (pkR v_292 v_298 (.bool false) h299) call fun v_300 h301 =>
arb (.val v_300 h301) call fun ok_302 h303 =>
arb (.val e_264 h303) call fun v_304 h305 =>
arb (.of (aBin P .eql 24 (.tmp 122) (.const (.int .i64 0)) v_304 (.int .i64 0)) h305) call fun v_306 h307 =>
cb v_306 (
arb (.val (t 10) h307) call fun v_308 h309 =>
arb (.of (ldn 5 h309 b_280) h309) call fun v_310 h311 =>
arb (bslR 5 [(.bool false), (.int .i64 0), (.int .i64 0), (.int .i64 0), .nils] 1 h311 [(0, 5, v_310)]) call fun v_312 h313 =>
arb (appR 5 56 h313 v_308 v_312) call fun v_314 h315 =>
arb (.val v_314 h315) call fun pending_316 h317 =>
k .normal (upd (upd (upd (upd (upd (upd (upd (upd (upd (upd (upd (upd (upd (upd (upd (upd (upd (upd (upd (upd (upd (upd (upd (upd (upd (upd (upd (upd (upd (upd (upd (upd (upd (upd t 101 v_246) 102 v_248) 103 v_250) 104 v_252) 100 v_254) 105 v_256) 106 v_258) 16 a_260) 17 e_264) 108 v_266) 109 v_268) 110 v_270) 111 v_272) 107 v_274) 112 v_276) 113 v_278) 18 b_280) 19 g_284) 114 v_286) 115 v_288) 116 v_290) 117 v_292) 118 v_294) 119 v_296) 120 v_298) 121 v_300) 14 ok_302) 122 v_304) 123 v_306) 124 v_308) 125 v_310) 126 v_312) 127 v_314) 10 pending_316) h317) (
k .normal (upd (upd (upd (upd (upd (upd (upd (upd (upd (upd (upd (upd (upd (upd (upd (upd (upd (upd (upd (upd (upd (upd (upd (upd (upd (upd (upd (upd (upd t 101 v_246) 102 v_248) 103 v_250) 104 v_252) 100 v_254) 105 v_256) 106 v_258) 16 a_260) 17 e_264) 108 v_266) 109 v_268) 110 v_270) 111 v_272) 107 v_274) 112 v_276) 113 v_278) 18 b_280) 19 g_284) 114 v_286) 115 v_288) 116 v_290) 117 v_292) 118 v_294) 119 v_296) 120 v_298) 121 v_300) 14 ok_302) 122 v_304) 123 v_306) h307)

def J_precentorlaw22_DeskTells_16 (P : Program) (call : FuncId → List AVal → Heap → Res AVal) (fuel : Nat) (k : Kn (Ex × T)) (t : T) (h : Heap) : Res (Ex × T) :=
arb (.val (t 8) h) call fun v_419 h420 =>
arb (.val (t 11) h420) call fun v_421 h422 =>
arb (.call F_desk_Desk_Open [v_419, v_421] h422) call fun v_423 h424 =>
arb (.val (t 9) h424) call fun v_425 h426 =>
arb (.val (t 11) h426) call fun v_427 h428 =>
arb (.call F_precentorref14_Desk_Open [v_425, v_427] h428) call fun v_429 h430 =>
k .normal (upd (upd (upd (upd (upd (upd t 169 v_419) 170 v_421) 171 v_423) 172 v_425) 173 v_427) 174 v_429) h430

def J_precentorlaw22_DeskTells_17 (P : Program) (call : FuncId → List AVal → Heap → Res AVal) (fuel : Nat) (k : Kn (Ex × T)) (t : T) (h : Heap) : Res (Ex × T) :=
cb (t 175) (
arb (.val (t 7) h) call fun v_448 h449 =>
arb (.call F_precentorhand_Feed_Next [v_448, (.int .i64 5)] h449) call fun v_450 h451 =>
arb (.of (aBin P .add 3 (.const (.int .i64 1)) (.tmp 179) (.int .i64 1) v_450) h451) call fun v_452 h453 =>
arb (.val (t 12) h453) call fun v_454 h455 =>
arb (.val (t 7) h455) call fun v_456 h457 =>
arb (.call F_precentorhand_Feed_Next [v_456, (.int .i64 3)] h457) call fun v_458 h459 =>
arb (.val (t 7) h459) call fun v_460 h461 =>
arb (.call F_precentorhand_Feed_Attrs [v_460] h461) call fun v_462 h463 =>
arb (.of (bldR [(.int .i64 0), (.int .i64 0), (.int .i64 0), .nils] [(0, 1, v_452), (1, 1, v_454), (2, 1, v_458), (3, 1, v_462)]) h463) call fun v_464 h465 =>
arb (newR [(.int .i64 0), (.int .i64 0), (.int .i64 0), .nils] h465) call fun x_466 h467 =>
arb (stR 4 h467 x_466 v_464) call fun v_468 h469 =>
obv (.val (t 8) h469) fun v_470 =>
obv (.val (t 13) h469) fun v_472 =>
obv (.of (ldn 4 h469 x_466) h469) fun v_474 => ifb true <|
arbE (.call F_desk_Desk_Hear [v_470, v_472, v_474] h469) call fun v_476 h477 => lt h477 fun g477 => ifb (true && true) <|
obv (.val (t 9) g477) fun v_478 =>
obv (.val (t 13) g477) fun v_480 =>
obv (.of (ldn 4 g477 x_466) g477) fun v_482 => ifb (isV v_482 (arVal (.of (ldn 4 h469 x_466) h469)) && true) <|
arbE (.call F_precentorref14_Desk_Hear [v_478, v_480, v_482] g477) call fun v_484 h485 => lt h485 fun g485 => ifb (true && true) <|
obv (.of (aBin P .eql 4 (.tmp 190) (.tmp 194) v_476 v_484) g485) fun v_486 =>
obv (.val v_486 g485) fun ok_488 =>
k .normal (upd (upd (upd (upd (upd (upd (upd (upd (upd (upd (upd (upd (upd (upd (upd (upd (upd (upd (upd (upd t 178 v_448) 179 v_450) 180 v_452) 181 v_454) 182 v_456) 183 v_458) 184 v_460) 185 v_462) 186 v_464) 25 x_466) 187 v_470) 188 v_472) 189 v_474) 190 v_476) 191 v_478) 192 v_480) 193 v_482) 194 v_484) 195 v_486) 14 ok_488) g485) (
arb (.val (t 8) h) call fun v_490 h491 =>
arb (.val (t 13) h491) call fun v_492 h493 =>
arb (.call F_desk_Desk_Poll [v_490, v_492] h493) call fun v_494 h495 =>
arb (.val v_494 h495) call fun v_496 h497 =>
arb (extR v_496 0 h497) call fun v_498 h499 =>
arb (extR v_496 1 h499) call fun v_500 h501 =>
arb (newR [(.int .i64 0), (.int .i64 0), (.int .i64 0), .nils] h501) call fun a_502 h503 =>
arb (stR 4 h503 a_502 v_498) call fun v_504 h505 =>
arb (.val v_500 h505) call fun e_506 h507 =>
arb (.val (t 9) h507) call fun v_508 h509 =>
arb (.val (t 13) h509) call fun v_510 h511 =>
arb (.call F_precentorref14_Desk_Poll [v_508, v_510] h511) call fun v_512 h513 =>
arb (.val v_512 h513) call fun v_514 h515 =>
arb (extR v_514 0 h515) call fun v_516 h517 =>
arb (extR v_514 1 h517) call fun v_518 h519 =>
arb (newR [(.int .i64 0), (.int .i64 0), (.int .i64 0), .nils] h519) call fun b_520 h521 =>
arb (stR 4 h521 b_520 v_516) call fun v_522 h523 =>
arb (.val v_518 h523) call fun g_524 h525 =>
arb (.val e_506 h525) call fun v_526 h527 =>
arb (.val g_524 h527) call fun v_528 h529 =>
arb (.of (aBin P .eql 24 (.tmp 70) (.tmp 71) v_526 v_528) h529) call fun v_530 h531 =>
arb (.val v_530 h531) call fun v_532 h533 =>
gd (wantB v_532 true) (fun c => arb (.of (ldn 4 h533 a_502) h533) call c) h533 fun v_534 h535 =>
gd (wantB v_532 true) (fun c => arb (.of (ldn 4 h535 b_520) h535) call c) h535 fun v_536 h537 =>
gd (wantB v_532 true) (fun c => arb (.call F_precentorlaw22_sameSeen [v_534, v_536] h537) call c) h537 fun v_538 h539 =>
arb (pkR v_532 v_538 (.bool false) h539) call fun v_540 h541 =>
arb (.val v_540 h541) call fun ok_542 h543 =>
k .normal (upd (upd (upd (upd (upd (upd (upd (upd (upd (upd (upd (upd (upd (upd (upd (upd (upd (upd (upd (upd (upd (upd (upd (upd (upd t 59 v_490) 60 v_492) 61 v_494) 58 v_496) 62 v_498) 63 v_500) 26 a_502) 27 e_506) 65 v_508) 66 v_510) 67 v_512) 64 v_514) 68 v_516) 69 v_518) 28 b_520) 29 g_524) 70 v_526) 71 v_528) 72 v_530) 73 v_532) 74 v_534) 75 v_536) 76 v_538) 77 v_540) 14 ok_542) h543)

def J_precentorlaw22_DeskTells_15 (P : Program) (call : FuncId → List AVal → Heap → Res AVal) (fuel : Nat) (k : Kn (Ex × T)) (t : T) (h : Heap) : Res (Ex × T) :=
cb (t 128) (
arb (.val (t 7) h) call fun v_337 h338 =>
arb (.call F_precentorhand_Feed_Next [v_337, (.int .i64 5)] h338) call fun v_339 h340 =>
arb (.val v_339 h340) call fun n_341 h342 =>
arb (.val (t 8) h342) call fun v_343 h344 =>
arb (.val (t 13) h344) call fun v_345 h346 =>
arb (.val n_341 h346) call fun v_347 h348 =>
arb (.call F_desk_Desk_Unsubscribe [v_343, v_345, v_347] h348) call fun v_349 h350 =>
arb (.val v_349 h350) call fun v_351 h352 =>
arb (extR v_351 0 h352) call fun v_353 h354 =>
arb (extR v_351 1 h354) call fun v_355 h356 =>
arb (newR [(.bool false), (.int .i64 0), (.int .i64 0), (.int .i64 0), .nils] h356) call fun a_357 h358 =>
arb (stR 5 h358 a_357 v_353) call fun v_359 h360 =>
arb (.val v_355 h360) call fun e_361 h362 =>
arb (.val (t 9) h362) call fun v_363 h364 =>
arb (.val (t 13) h364) call fun v_365 h366 =>
arb (.val n_341 h366) call fun v_367 h368 =>
arb (.call F_precentorref14_Desk_Unsubscribe [v_363, v_365, v_367] h368) call fun v_369 h370 =>
arb (.val v_369 h370) call fun v_371 h372 =>
arb (extR v_371 0 h372) call fun v_373 h374 =>
arb (extR v_371 1 h374) call fun v_375 h376 =>
arb (newR [(.bool false), (.int .i64 0), (.int .i64 0), (.int .i64 0), .nils] h376) call fun b_377 h378 =>
arb (stR 5 h378 b_377 v_373) call fun v_379 h380 =>
arb (.val v_375 h380) call fun g_381 h382 =>
arb (.val e_361 h382) call fun v_383 h384 =>
arb (.val g_381 h384) call fun v_385 h386 =>
arb (.of (aBin P .eql 24 (.tmp 147) (.tmp 148) v_383 v_385) h386) call fun v_387 h388 =>
arb (.val v_387 h388) call fun v_389 h390 =>
gd (wantB v_389 true) (fun c => arb (.of (ldn 5 h390 a_357) h390) call c) h390 fun v_391 h392 =>
gd (wantB v_389 true) (fun c => arb (.of (ldn 5 h392 b_377) h392) call c) h392 fun v_393 h394 =>
gd (wantB v_389 true) (fun c => arb (.call F_precentorlaw22_sameChange [v_391, v_393] h394) call c) h394 fun v_395 h396 =>
arb (pkR v_389 v_395 (.bool false) h396) call fun v_397 h398 =>
arb (.val v_397 h398) call fun ok_399 h400 =>
arb (.val e_361 h400) call fun v_401 h402 =>
arb (.of (aBin P .eql 24 (.tmp 155) (.const (.int .i64 0)) v_401 (.int .i64 0)) h402) call fun v_403 h404 =>
cb v_403 (
arb (.val (t 10) h404) call fun v_405 h406 =>
arb (.of (ldn 5 h406 b_377) h406) call fun v_407 h408 =>
arb (bslR 5 [(.bool false), (.int .i64 0), (.int .i64 0), (.int .i64 0), .nils] 1 h408 [(0, 5, v_407)]) call fun v_409 h410 =>
arb (appR 5 56 h410 v_405 v_409) call fun v_411 h412 =>
arb (.val v_411 h412) call fun pending_413 h414 =>
k .normal (upd (upd (upd (upd (upd (upd (upd (upd (upd (upd (upd (upd (upd (upd (upd (upd (upd (upd (upd (upd (upd (upd (upd (upd (upd (upd (upd (upd (upd (upd (upd (upd (upd (upd (upd (upd (upd t 131 v_337) 132 v_339) 20 n_341) 134 v_343) 135 v_345) 136 v_347) 137 v_349) 133 v_351) 138 v_353) 139 v_355) 21 a_357) 22 e_361) 141 v_363) 142 v_365) 143 v_367) 144 v_369) 140 v_371) 145 v_373) 146 v_375) 23 b_377) 24 g_381) 147 v_383) 148 v_385) 149 v_387) 150 v_389) 151 v_391) 152 v_393) 153 v_395) 154 v_397) 14 ok_399) 155 v_401) 156 v_403) 157 v_405) 158 v_407) 159 v_409) 160 v_411) 10 pending_413) h414) (
k .normal (upd (upd (upd (upd (upd (upd (upd (upd (upd (upd (upd (upd (upd (upd (upd (upd (upd (upd (upd (upd (upd (upd (upd (upd (upd (upd (upd (upd (upd (upd (upd (upd t 131 v_337) 132 v_339) 20 n_341) 134 v_343) 135 v_345) 136 v_347) 137 v_349) 133 v_351) 138 v_353) 139 v_355) 21 a_357) 22 e_361) 141 v_363) 142 v_365) 143 v_367) 144 v_369) 140 v_371) 145 v_373) 146 v_375) 23 b_377) 24 g_381) 147 v_383) 148 v_385) 149 v_387) 150 v_389) 151 v_391) 152 v_393) 153 v_395) 154 v_397) 14 ok_399) 155 v_401) 156 v_403) h404)) (
arb (.of (aBin P .eql 3 (.tmp 57) (.const (.int .i64 5)) (t 57) (.int .i64 5)) h) call fun v_415 h416 =>
arb (.val v_415 h416) call fun v_417 h418 =>
cb v_417 (
lt (sqK (J_precentorlaw22_DeskTells_16 P call fuel k) k) fun k431 =>
arb (.val (t 7) h418) call fun v_432 h433 =>
arb (.call F_precentorhand_Feed_Next [v_432, (.int .i64 4)] h433) call fun v_434 h435 =>
arb (.of (aBin P .gtr 3 (.tmp 164) (.const (.int .i64 0)) v_434 (.int .i64 0)) h435) call fun v_436 h437 =>
cb v_436 (
arb (.val (t 11) h437) call fun v_438 h439 =>
arb (.val (t 10) h439) call fun v_440 h441 =>
arb (.call F_precentorref9_Apply [v_438, v_440] h441) call fun v_442 h443 =>
arb (.val v_442 h443) call fun now_444 h445 =>
arb (.val .nils h445) call fun pending_446 h447 =>
k431 .normal (upd (upd (upd (upd (upd (upd (upd (upd (upd (upd t 162 v_415) 161 v_417) 163 v_432) 164 v_434) 165 v_436) 166 v_438) 167 v_440) 168 v_442) 11 now_444) 10 pending_446) h447) (
k431 .normal (upd (upd (upd (upd (upd t 162 v_415) 161 v_417) 163 v_432) 164 v_434) 165 v_436) h437)) (
lt (sqK (J_precentorlaw22_DeskTells_17 P call fuel k) k) fun k544 =>
arb (.of (aBin P .eql 3 (.tmp 57) (.const (.int .i64 6)) (t 57) (.int .i64 6)) h418) call fun v_545 h546 =>
arb (.val v_545 h546) call fun v_547 h548 =>
cb v_547 (
k544 .normal (upd (upd (upd (upd t 162 v_415) 161 v_417) 176 v_545) 175 v_547) h548) (
arb (.of (aBin P .eql 3 (.tmp 57) (.const (.int .i64 7)) (t 57) (.int .i64 7)) h548) call fun v_549 h550 =>
arb (.val v_549 h550) call fun v_551 h552 =>
k544 .normal (upd (upd (upd (upd (upd (upd t 162 v_415) 161 v_417) 176 v_545) 175 v_547) 177 v_549) 175 v_551) h552)))

def J_precentorlaw22_DeskTells_13 (P : Program) (call : FuncId → List AVal → Heap → Res AVal) (fuel : Nat) (k : Kn (Ex × T)) (t : T) (h : Heap) : Res (Ex × T) :=
cb (t 87) (
arb (.val (t 7) h) call fun v_240 h241 =>
arb (.call F_precentorhand_Feed_Filter [v_240] h241) call fun v_242 h243 =>
arb (.val v_242 h243) call fun x_244 h245 =>
lt (sqK (J_precentorlaw22_DeskTells_14 P call fuel k) k) fun k318 =>
arb (.val (t 7) h245) call fun v_319 h320 =>
arb (.call F_precentorhand_Feed_Next [v_319, (.int .i64 9)] h320) call fun v_321 h322 =>
arb (.of (aBin P .eql 3 (.tmp 93) (.const (.int .i64 0)) v_321 (.int .i64 0)) h322) call fun v_323 h324 =>
cb v_323 (
arb (.val (t 2) h324) call fun v_325 h326 =>
arb (.val (t 2) h326) call fun v_327 h328 =>
arb (.of (lenL v_327) h328) call fun v_329 h330 =>
arb (.of (aPureB P (Builtin.min_ #[3, 3] 3) [v_329, (.int .i64 4)]) h330) call fun v_331 h332 =>
arb (.of (slcR 13 v_325 none (some v_331) none) h332) call fun v_333 h334 =>
arb (.val v_333 h334) call fun x_335 h336 =>
k318 .normal (upd (upd (upd (upd (upd (upd (upd (upd (upd (upd (upd (upd t 90 v_240) 91 v_242) 15 x_244) 92 v_319) 93 v_321) 94 v_323) 95 v_325) 96 v_327) 97 v_329) 98 v_331) 99 v_333) 15 x_335) h336) (
k318 .normal (upd (upd (upd (upd (upd (upd t 90 v_240) 91 v_242) 15 x_244) 92 v_319) 93 v_321) 94 v_323) h324)) (
lt (sqK (J_precentorlaw22_DeskTells_15 P call fuel k) k) fun k553 =>
arb (.of (aBin P .eql 3 (.tmp 57) (.const (.int .i64 3)) (t 57) (.int .i64 3)) h) call fun v_554 h555 =>
arb (.val v_554 h555) call fun v_556 h557 =>
cb v_556 (
k553 .normal (upd (upd t 129 v_554) 128 v_556) h557) (
arb (.of (aBin P .eql 3 (.tmp 57) (.const (.int .i64 4)) (t 57) (.int .i64 4)) h557) call fun v_558 h559 =>
arb (.val v_558 h559) call fun v_560 h561 =>
k553 .normal (upd (upd (upd (upd t 129 v_554) 128 v_556) 130 v_558) 128 v_560) h561))

def J_precentorlaw22_DeskTells_9 (P : Program) (call : FuncId → List AVal → Heap → Res AVal) (fuel : Nat) (k : Kn (Ex × T)) (t : T) (h : Heap) : Res (Ex × T) :=
lt (sqK (J_precentorlaw22_DeskTells_10 P call fuel k) k) fun k121 =>
lt (blkK 1 k121) fun k122 =>
arb (.val (t 7) h) call fun v_123 h124 =>
arb (.call F_precentorhand_Feed_Next [v_123, (.int .i64 5)] h124) call fun v_125 h126 =>
arb (.val v_125 h126) call fun c_127 h128 =>
arb (.val (.bool true) h128) call fun ok_129 h130 =>
lt (sqK (J_precentorlaw22_DeskTells_11 P call fuel k122) k122) fun k214 =>
arb (.val (t 7) h130) call fun v_215 h216 =>
arb (.call F_precentorhand_Feed_Next [v_215, (.int .i64 9)] h216) call fun v_217 h218 =>
lt (blkK 2 k214) fun k219 =>
arb (.of (aBin P .eql 3 (.tmp 57) (.const (.int .i64 0)) v_217 (.int .i64 0)) h218) call fun v_220 h221 =>
arb (.val v_220 h221) call fun v_222 h223 =>
cb v_222 (
arb (.val (t 8) h223) call fun v_224 h225 =>
arb (.val c_127 h225) call fun v_226 h227 =>
arb (.call F_desk_Desk_Attach [v_224, v_226] h227) call fun v_228 h229 =>
arb (.val (t 9) h229) call fun v_230 h231 =>
arb (.val c_127 h231) call fun v_232 h233 =>
arb (.call F_precentorref14_Desk_Attach [v_230, v_232] h233) call fun v_234 h235 =>
arb (.of (aBin P .eql 24 (.tmp 82) (.tmp 85) v_228 v_234) h235) call fun v_236 h237 =>
arb (.val v_236 h237) call fun ok_238 h239 =>
k219 .normal (upd (upd (upd (upd (upd (upd (upd (upd (upd (upd (upd (upd (upd (upd (upd (upd t 54 v_123) 55 v_125) 13 c_127) 14 ok_129) 56 v_215) 57 v_217) 79 v_220) 78 v_222) 80 v_224) 81 v_226) 82 v_228) 83 v_230) 84 v_232) 85 v_234) 86 v_236) 14 ok_238) h239) (
lt (sqK (J_precentorlaw22_DeskTells_13 P call fuel k219) k219) fun k562 =>
arb (.of (aBin P .eql 3 (.tmp 57) (.const (.int .i64 1)) v_217 (.int .i64 1)) h223) call fun v_563 h564 =>
arb (.val v_563 h564) call fun v_565 h566 =>
cb v_565 (
k562 .normal (upd (upd (upd (upd (upd (upd (upd (upd (upd (upd t 54 v_123) 55 v_125) 13 c_127) 14 ok_129) 56 v_215) 57 v_217) 79 v_220) 78 v_222) 88 v_563) 87 v_565) h566) (
arb (.of (aBin P .eql 3 (.tmp 57) (.const (.int .i64 2)) v_217 (.int .i64 2)) h566) call fun v_567 h568 =>
arb (.val v_567 h568) call fun v_569 h570 =>
k562 .normal (upd (upd (upd (upd (upd (upd (upd (upd (upd (upd (upd (upd t 54 v_123) 55 v_125) 13 c_127) 14 ok_129) 56 v_215) 57 v_217) 79 v_220) 78 v_222) 88 v_563) 87 v_565) 89 v_567) 87 v_569) h570))

def L_precentorlaw22_DeskTells_8 (P : Program) (call : FuncId → List AVal → Heap → Res AVal) (fuel : Nat) (t : T) (h : Heap) : Res (Ex × T) :=
lt okK fun k =>
lt (sqK (J_precentorlaw22_DeskTells_9 P call fuel k) k) fun k571 =>
arb (.val (t 12) h) call fun v_572 h573 =>
arb (.of (aBin P .lss 3 (.tmp 50) (.const (.int .i64 50)) v_572 (.int .i64 50)) h573) call fun v_574 h575 =>
cb v_574 (
k571 .normal (upd (upd t 50 v_572) 51 v_574) h575) (
k571 (.exit 0) (upd (upd t 50 v_572) 51 v_574) h575)

def J_precentorlaw22_DeskTells_0 (P : Program) (call : FuncId → List AVal → Heap → Res AVal) (fuel : Nat) (k : Kn (AVal)) (t : T) (h : Heap) : Res (AVal) :=
arb (.val .nils h) call fun pending_30 h31 =>
arb (.val .nils h31) call fun now_32 h33 =>
lt (sqK (J_precentorlaw22_DeskTells_1 P call fuel k) k) fun k111 =>
arb (.val (.int .i64 0) h33) call fun i_112 h113 =>
lt (blkK 0 k111) fun k114 =>
(loopN (L_precentorlaw22_DeskTells_8 P call fuel) fuel (upd (upd (upd t 10 pending_30) 11 now_32) 12 i_112) h113).bind (lpK k114)

def S_precentorlaw22_DeskTells (P : Program) (call : FuncId → List AVal → Heap → Res AVal) (fuel : Nat) (l_a0 broker_a1 raw_a2 : AVal) (h : Heap) : Res AVal :=
lt (retK P [.tmp 6]) fun k =>
arb (.val (.bool false) h) call fun v_0 h1 =>
arb (.val l_a0 h1) call fun v_2 h3 =>
arb (.of (bldR [.nils, (.int .i64 0)] [(0, 1, v_2)]) h3) call fun v_4 h5 =>
arb (boxR v_4 h5) call fun v_6 h7 =>
arb (.val v_6 h7) call fun f_8 h9 =>
arb (.val broker_a1 h9) call fun v_10 h11 =>
arb (.call F_precentorhand_Pick [v_10, (.int .i64 8)] h11) call fun v_12 h13 =>
arb (.val v_12 h13) call fun broker_14 h15 =>
arb (.val broker_14 h15) call fun v_16 h17 =>
arb (.call F_desk_New [v_16] h17) call fun v_18 h19 =>
arb (.val v_18 h19) call fun d_20 h21 =>
arb (.val broker_14 h21) call fun v_22 h23 =>
arb (.of (bldR [(.int .i64 0), (.bool false), (.int .i64 0), (.bool false), (.int .i64 0), (.int .i64 0), (.int .i64 0), .nils, (.bool false), .nils, .nils, (.int .i64 0), (.bool false), (.int .i64 0), (.bool false), (.int .i64 0), (.int .i64 0), (.int .i64 0), .nils, (.bool false), .nils, .nils, (.int .i64 0), (.bool false), (.int .i64 0), (.bool false), (.int .i64 0), (.int .i64 0), (.int .i64 0), .nils, (.bool false), .nils, .nils, (.int .i64 0), (.bool false), (.int .i64 0), (.bool false), (.int .i64 0), (.int .i64 0), (.int .i64 0), .nils, (.bool false), .nils, .nils, (.int .i64 0), (.bool false), (.int .i64 0), (.bool false), (.int .i64 0), (.int .i64 0), (.int .i64 0), .nils, (.bool false), .nils, .nils, (.int .i64 0), (.bool false), (.int .i64 0), (.bool false), (.int .i64 0), (.int .i64 0), (.int .i64 0), .nils, (.bool false), .nils, .nils, (.int .i64 0), (.bool false), (.int .i64 0), (.bool false), (.int .i64 0), (.int .i64 0), (.int .i64 0), .nils, (.bool false), .nils, .nils, (.int .i64 0)] [(0, 1, v_22)]) h23) call fun v_24 h25 =>
arb (boxR v_24 h25) call fun v_26 h27 =>
arb (.val v_26 h27) call fun r_28 h29 =>
lt (sqK (J_precentorlaw22_DeskTells_0 P call fuel k) k) fun k576 =>
arb (.call F_precentorlaw22_known [] h29) call fun v_577 h578 =>
arb (.of (aUn P .not v_577) h578) call fun v_579 h580 =>
arb (.val v_579 h580) call fun v_581 h582 =>
gd (wantB v_581 false) (fun c => arb (.val d_20 h582) call c) h582 fun v_583 h584 =>
gd (wantB v_581 false) (fun c => arb (.of (aBin P .eql 22 (.tmp 47) (.const (.pointer none)) v_583 .nilp) h584) call c) h584 fun v_585 h586 =>
arb (pkR v_581 (.bool true) v_585 h586) call fun v_587 h588 =>
cb v_587 (
arb (.val (.bool false) h588) call fun v_589 h590 =>
k576 .ret (upd (upd (upd (upd (upd (upd (upd (upd (upd (upd (upd (upd (upd (upd (upd (upd (upd (upd (upd (upd (upd (upd (enterT [l_a0, broker_a1, raw_a2]) 6 v_0) 34 v_2) 35 v_4) 36 v_6) 7 f_8) 37 v_10) 38 v_12) 1 broker_14) 39 v_16) 40 v_18) 8 d_20) 41 v_22) 42 v_24) 43 v_26) 9 r_28) 44 v_577) 45 v_579) 46 v_581) 47 v_583) 48 v_585) 49 v_587) 6 v_589) h590) (
k576 .normal (upd (upd (upd (upd (upd (upd (upd (upd (upd (upd (upd (upd (upd (upd (upd (upd (upd (upd (upd (upd (upd (enterT [l_a0, broker_a1, raw_a2]) 6 v_0) 34 v_2) 35 v_4) 36 v_6) 7 f_8) 37 v_10) 38 v_12) 1 broker_14) 39 v_16) 40 v_18) 8 d_20) 41 v_22) 42 v_24) 43 v_26) 9 r_28) 44 v_577) 45 v_579) 46 v_581) 47 v_583) 48 v_585) 49 v_587) h588)
theorem E_precentorlaw22_DeskTells (call : FuncId → List AVal → Heap → Res AVal) (fuel : Nat) (l_a0 broker_a1 raw_a2 : AVal) (h : Heap) : bodyR Try.prog call fuel Try.f5 [l_a0, broker_a1, raw_a2] h = S_precentorlaw22_DeskTells Try.prog call fuel l_a0 broker_a1 raw_a2 h := by kernel_rfl
theorem R_precentorlaw22_DeskTells {X : XTab} (l_a0 broker_a1 raw_a2 : AVal) {h : Heap} {Q : AVal → Heap → Prop} (hx : X F_precentorlaw22_DeskTells [l_a0, broker_a1, raw_a2] = none) (q : Tells (fun m => S_precentorlaw22_DeskTells Try.prog (acallX Try.prog X m) m l_a0 broker_a1 raw_a2 h) Q) :
    Tells (fun m => acallX Try.prog X m F_precentorlaw22_DeskTells [l_a0, broker_a1, raw_a2] h) Q :=
  Tells.later (q.le fun m => (E_precentorlaw22_DeskTells (acallX Try.prog X m) m l_a0 broker_a1 raw_a2 h) ▸ acallX_le Try.func5 hx m h)

/-! ### precentor/precentorlaw22.DeskPolls -/
def J_precentorlaw22_DeskPolls_2 (P : Program) (call : FuncId → List AVal → Heap → Res AVal) (fuel : Nat) (k : Kn (AVal)) (t : T) (h : Heap) : Res (AVal) :=
arb (.val (t 10) h) call fun v_24 h25 =>
arb (.of (lenL v_24) h25) call fun v_26 h27 =>
arb (.val (t 5) h27) call fun v_28 h29 =>
arb (.of (aBin P .eql 3 (.tmp 92) (.tmp 93) v_26 v_28) h29) call fun v_30 h31 =>
arb (.val v_30 h31) call fun v_32 h33 =>
gd (wantB v_32 true) (fun c => arb (.val (t 4) h33) call c) h33 fun v_34 h35 =>
gd (wantB v_32 true) (fun c => arb (.call F_desk_Desk_Log [v_34, (.int .i64 3)] h35) call c) h35 fun v_36 h37 =>
gd (wantB v_32 true) (fun c => arb (.of (lenL v_36) h37) call c) h37 fun v_38 h39 =>
gd (wantB v_32 true) (fun c => arb (.of (aBin P .eql 3 (.tmp 98) (.const (.int .i64 0)) v_38 (.int .i64 0)) h39) call c) h39 fun v_40 h41 =>
arb (pkR v_32 v_40 (.bool false) h41) call fun v_42 h43 =>
arb (.val v_42 h43) call fun v_44 h45 =>
k .ret (upd (upd (upd (upd (upd (upd (upd (upd (upd (upd (upd t 91 v_24) 92 v_26) 93 v_28) 94 v_30) 95 v_32) 96 v_34) 97 v_36) 98 v_38) 99 v_40) 100 v_42) 2 v_44) h45

def J_precentorlaw22_DeskPolls_5 (P : Program) (call : FuncId → List AVal → Heap → Res AVal) (fuel : Nat) (k : Kn (Ex × T)) (t : T) (h : Heap) : Res (Ex × T) :=
arb (.val (t 11) h) call fun v_50 h51 =>
arb (.of (aBin P .add 3 (.tmp 81) (.const (.int .i64 1)) v_50 (.int .i64 1)) h51) call fun v_52 h53 =>
arb (.val v_52 h53) call fun i_54 h55 =>
k .normal (upd (upd (upd t 81 v_50) 82 v_52) 11 i_54) h55

def J_precentorlaw22_DeskPolls_4 (P : Program) (call : FuncId → List AVal → Heap → Res AVal) (fuel : Nat) (k : Kn (Ex × T)) (t : T) (h : Heap) : Res (Ex × T) :=
lt (sqK (J_precentorlaw22_DeskPolls_5 P call fuel k) k) fun k56 =>
lt (blkK 3 k56) fun k57 =>
arb (.val (t 10) h) call fun v_58 h59 =>
arb (.val (t 11) h59) call fun v_60 h61 =>
arb (.of (ixsR 4 v_58 v_60) h61) call fun v_62 h63 =>
arb (.of (fadR 1 v_62) h63) call fun v_64 h65 =>
arb (.of (ld1 h65 v_64) h65) call fun v_66 h67 =>
arb (.val (t 11) h67) call fun v_68 h69 =>
arb (.of (aBin P .add 3 (.tmp 88) (.const (.int .i64 1)) v_68 (.int .i64 1)) h69) call fun v_70 h71 =>
arb (.of (aBin P .neq 3 (.tmp 87) (.tmp 89) v_66 v_70) h71) call fun v_72 h73 =>
cb v_72 (
arb (.val (.bool false) h73) call fun v_74 h75 =>
k57 .ret (upd (upd (upd (upd (upd (upd (upd (upd (upd t 83 v_58) 84 v_60) 85 v_62) 86 v_64) 87 v_66) 88 v_68) 89 v_70) 90 v_72) 2 v_74) h75) (
k57 .normal (upd (upd (upd (upd (upd (upd (upd (upd t 83 v_58) 84 v_60) 85 v_62) 86 v_64) 87 v_66) 88 v_68) 89 v_70) 90 v_72) h73)

def L_precentorlaw22_DeskPolls_3 (P : Program) (call : FuncId → List AVal → Heap → Res AVal) (fuel : Nat) (t : T) (h : Heap) : Res (Ex × T) :=
lt okK fun k =>
lt (sqK (J_precentorlaw22_DeskPolls_4 P call fuel k) k) fun k76 =>
arb (.val (t 11) h) call fun v_77 h78 =>
arb (.val (t 10) h78) call fun v_79 h80 =>
arb (.of (lenL v_79) h80) call fun v_81 h82 =>
arb (.of (aBin P .lss 3 (.tmp 77) (.tmp 79) v_77 v_81) h82) call fun v_83 h84 =>
cb v_83 (
k76 .normal (upd (upd (upd (upd t 77 v_77) 78 v_79) 79 v_81) 80 v_83) h84) (
k76 (.exit 2) (upd (upd (upd (upd t 77 v_77) 78 v_79) 79 v_81) 80 v_83) h84)

def J_precentorlaw22_DeskPolls_1 (P : Program) (call : FuncId → List AVal → Heap → Res AVal) (fuel : Nat) (k : Kn (AVal)) (t : T) (h : Heap) : Res (AVal) :=
arb (.val (t 4) h) call fun v_18 h19 =>
arb (.call F_desk_Desk_Log [v_18, (.int .i64 2)] h19) call fun v_20 h21 =>
arb (.val v_20 h21) call fun log_22 h23 =>
lt (sqK (J_precentorlaw22_DeskPolls_2 P call fuel k) k) fun k46 =>
arb (.val (.int .i64 0) h23) call fun i_47 h48 =>
lt (blkK 2 k46) fun k49 =>
(loopN (L_precentorlaw22_DeskPolls_3 P call fuel) fuel (upd (upd (upd (upd t 75 v_18) 76 v_20) 10 log_22) 11 i_47) h48).bind (lpK k49)

def J_precentorlaw22_DeskPolls_8 (P : Program) (call : FuncId → List AVal → Heap → Res AVal) (fuel : Nat) (k : Kn (Ex × T)) (t : T) (h : Heap) : Res (Ex × T) :=
arb (.val (t 7) h) call fun v_89 h90 =>
arb (.of (aBin P .add 3 (.tmp 34) (.const (.int .i64 1)) v_89 (.int .i64 1)) h90) call fun v_91 h92 =>
arb (.val v_91 h92) call fun i_93 h94 =>
k .normal (upd (upd (upd t 34 v_89) 35 v_91) 7 i_93) h94

def J_precentorlaw22_DeskPolls_10 (P : Program) (call : FuncId → List AVal → Heap → Res AVal) (fuel : Nat) (k : Kn (Ex × T)) (t : T) (h : Heap) : Res (Ex × T) :=
arb (.val (t 9) h) call fun v_113 h114 =>
arb (.of (aBin P .eql 24 (.tmp 67) (.const (.int .i64 0)) v_113 (.int .i64 0)) h114) call fun v_115 h116 =>
cb v_115 (
arb (.val (t 6) h116) call fun v_117 h118 =>
arb (.of (aBin P .add 3 (.tmp 69) (.const (.int .i64 1)) v_117 (.int .i64 1)) h118) call fun v_119 h120 =>
arb (.val v_119 h120) call fun polled_121 h122 =>
arb (.of (fadR 1 (t 8)) h122) call fun v_123 h124 =>
arb (.of (ld1 h124 v_123) h124) call fun v_125 h126 =>
arb (.val polled_121 h126) call fun v_127 h128 =>
arb (.of (aBin P .neq 3 (.tmp 72) (.tmp 73) v_125 v_127) h128) call fun v_129 h130 =>
cb v_129 (
arb (.val (.bool false) h130) call fun v_131 h132 =>
k .ret (upd (upd (upd (upd (upd (upd (upd (upd (upd (upd t 67 v_113) 68 v_115) 69 v_117) 70 v_119) 6 polled_121) 71 v_123) 72 v_125) 73 v_127) 74 v_129) 2 v_131) h132) (
k .normal (upd (upd (upd (upd (upd (upd (upd (upd (upd t 67 v_113) 68 v_115) 69 v_117) 70 v_119) 6 polled_121) 71 v_123) 72 v_125) 73 v_127) 74 v_129) h130)) (
k .normal (upd (upd t 67 v_113) 68 v_115) h116)

def J_precentorlaw22_DeskPolls_9 (P : Program) (call : FuncId → List AVal → Heap → Res AVal) (fuel : Nat) (k : Kn (Ex × T)) (t : T) (h : Heap) : Res (Ex × T) :=
arb (.val (t 4) h) call fun v_97 h98 =>
arb (.call F_desk_Desk_Poll [v_97, (.int .i64 2)] h98) call fun v_99 h100 =>
arb (.val v_99 h100) call fun v_101 h102 =>
arb (extR v_101 0 h102) call fun v_103 h104 =>
arb (extR v_101 1 h104) call fun v_105 h106 =>
arb (newR [(.int .i64 0), (.int .i64 0), (.int .i64 0), .nils] h106) call fun x_107 h108 =>
arb (stR 4 h108 x_107 v_103) call fun v_109 h110 =>
arb (.val v_105 h110) call fun e_111 h112 =>
lt (sqK (J_precentorlaw22_DeskPolls_10 P call fuel k) k) fun k133 =>
arb (.val e_111 h112) call fun v_134 h135 =>
arb (.of (aBin P .eql 24 (.tmp 53) (.const (.int .i64 0)) v_134 (.int .i64 0)) h135) call fun v_136 h137 =>
arb (.val (t 6) h137) call fun v_138 h139 =>
arb (.val (t 5) h139) call fun v_140 h141 =>
arb (.of (aBin P .lss 3 (.tmp 55) (.tmp 56) v_138 v_140) h141) call fun v_142 h143 =>
arb (.of (aBin P .neq 4 (.tmp 54) (.tmp 57) v_136 v_142) h143) call fun v_144 h145 =>
arb (.val v_144 h145) call fun v_146 h147 =>
gd (wantB v_146 false) (fun c => arb (.val e_111 h147) call c) h147 fun v_148 h149 =>
gd (wantB v_146 false) (fun c => arb (.of (aBin P .neq 24 (.tmp 60) (.const (.int .i64 0)) v_148 (.int .i64 0)) h149) call c) h149 fun v_150 h151 =>
gd (wantB v_146 false) (fun c => arb (.val v_150 h151) call c) h151 fun v_152 h153 =>
gd (wantB v_152 true) (fun c => arb (.val e_111 h153) call c) h153 fun v_154 h155 =>
gd (wantB v_152 true) (fun c => arb (.of (aBin P .neq 24 (.tmp 63) (.const (.int .i64 4)) v_154 (.int .i64 4)) h155) call c) h155 fun v_156 h157 =>
gd (wantB v_146 false) (fun c => arb (pkR v_152 v_156 (.bool false) h157) call c) h157 fun v_158 h159 =>
arb (pkR v_146 (.bool true) v_158 h159) call fun v_160 h161 =>
cb v_160 (
arb (.val (.bool false) h161) call fun v_162 h163 =>
k133 .ret (upd (upd (upd (upd (upd (upd (upd (upd (upd (upd (upd (upd (upd (upd (upd (upd (upd (upd (upd (upd (upd (upd t 49 v_97) 50 v_99) 48 v_101) 51 v_103) 52 v_105) 8 x_107) 9 e_111) 53 v_134) 54 v_136) 55 v_138) 56 v_140) 57 v_142) 58 v_144) 59 v_146) 60 v_148) 61 v_150) 62 v_152) 63 v_154) 64 v_156) 65 v_158) 66 v_160) 2 v_162) h163) (
k133 .normal (upd (upd (upd (upd (upd (upd (upd (upd (upd (upd (upd (upd (upd (upd (upd (upd (upd (upd (upd (upd (upd t 49 v_97) 50 v_99) 48 v_101) 51 v_103) 52 v_105) 8 x_107) 9 e_111) 53 v_134) 54 v_136) 55 v_138) 56 v_140) 57 v_142) 58 v_144) 59 v_146) 60 v_148) 61 v_150) 62 v_152) 63 v_154) 64 v_156) 65 v_158) 66 v_160) h161)

def J_precentorlaw22_DeskPolls_11 (P : Program) (call : FuncId → List AVal → Heap → Res AVal) (fuel : Nat) (k : Kn (Ex × T)) (t : T) (h : Heap) : Res (Ex × T) :=
k (.exit 1) t h

def J_precentorlaw22_DeskPolls_7 (P : Program) (call : FuncId → List AVal → Heap → Res AVal) (fuel : Nat) (k : Kn (Ex × T)) (t : T) (h : Heap) : Res (Ex × T) :=
lt (sqK (J_precentorlaw22_DeskPolls_8 P call fuel k) k) fun k95 =>
lt (blkK 1 k95) fun k96 =>
lt (sqK (J_precentorlaw22_DeskPolls_9 P call fuel k96) k96) fun k164 =>
arb (.val (t 3) h) call fun v_165 h166 =>
arb (.call F_precentorhand_Feed_Next [v_165, (.int .i64 2)] h166) call fun v_167 h168 =>
arb (.of (aBin P .eql 3 (.tmp 37) (.const (.int .i64 0)) v_167 (.int .i64 0)) h168) call fun v_169 h170 =>
cb v_169 (
arb (.val (t 5) h170) call fun v_171 h172 =>
arb (.of (aBin P .add 3 (.tmp 39) (.const (.int .i64 1)) v_171 (.int .i64 1)) h172) call fun v_173 h174 =>
arb (.val v_173 h174) call fun heard_175 h176 =>
lt (sqK (J_precentorlaw22_DeskPolls_11 P call fuel k164) k164) fun k177 =>
arb (.val (t 4) h176) call fun v_178 h179 =>
arb (.val heard_175 h179) call fun v_180 h181 =>
arb (.val (t 3) h181) call fun v_182 h183 =>
arb (.call F_precentorhand_Feed_Attrs [v_182] h183) call fun v_184 h185 =>
arb (.of (bldR [(.int .i64 0), (.int .i64 0), (.int .i64 0), .nils] [(0, 1, (.int .i64 1)), (1, 1, v_180), (3, 1, v_184)]) h185) call fun v_186 h187 =>
arb (.call F_desk_Desk_Hear [v_178, (.int .i64 2), v_186] h187) call fun v_188 h189 =>
arb (.of (aUn P .not v_188) h189) call fun v_190 h191 =>
cb v_190 (
arb (.val (.bool false) h191) call fun v_192 h193 =>
k177 .ret (upd (upd (upd (upd (upd (upd (upd (upd (upd (upd (upd (upd (upd (upd t 36 v_165) 37 v_167) 38 v_169) 39 v_171) 40 v_173) 5 heard_175) 41 v_178) 42 v_180) 43 v_182) 44 v_184) 45 v_186) 46 v_188) 47 v_190) 2 v_192) h193) (
k177 .normal (upd (upd (upd (upd (upd (upd (upd (upd (upd (upd (upd (upd (upd t 36 v_165) 37 v_167) 38 v_169) 39 v_171) 40 v_173) 5 heard_175) 41 v_178) 42 v_180) 43 v_182) 44 v_184) 45 v_186) 46 v_188) 47 v_190) h191)) (
k164 .normal (upd (upd (upd t 36 v_165) 37 v_167) 38 v_169) h170)

def L_precentorlaw22_DeskPolls_6 (P : Program) (call : FuncId → List AVal → Heap → Res AVal) (fuel : Nat) (t : T) (h : Heap) : Res (Ex × T) :=
lt okK fun k =>
lt (sqK (J_precentorlaw22_DeskPolls_7 P call fuel k) k) fun k194 =>
arb (.val (t 7) h) call fun v_195 h196 =>
arb (.of (aBin P .lss 3 (.tmp 32) (.const (.int .i64 40)) v_195 (.int .i64 40)) h196) call fun v_197 h198 =>
cb v_197 (
k194 .normal (upd (upd t 32 v_195) 33 v_197) h198) (
k194 (.exit 0) (upd (upd t 32 v_195) 33 v_197) h198)

def J_precentorlaw22_DeskPolls_0 (P : Program) (call : FuncId → List AVal → Heap → Res AVal) (fuel : Nat) (k : Kn (AVal)) (t : T) (h : Heap) : Res (AVal) :=
arb (.val (.int .i64 0) h) call fun heard_14 h15 =>
arb (.val (.int .i64 0) h15) call fun polled_16 h17 =>
lt (sqK (J_precentorlaw22_DeskPolls_1 P call fuel k) k) fun k85 =>
arb (.val (.int .i64 0) h17) call fun i_86 h87 =>
lt (blkK 0 k85) fun k88 =>
(loopN (L_precentorlaw22_DeskPolls_6 P call fuel) fuel (upd (upd (upd t 5 heard_14) 6 polled_16) 7 i_86) h87).bind (lpK k88)

def S_precentorlaw22_DeskPolls (P : Program) (call : FuncId → List AVal → Heap → Res AVal) (fuel : Nat) (l_a0 : AVal) (h : Heap) : Res AVal :=
lt (retK P [.tmp 2]) fun k =>
arb (.val (.bool false) h) call fun v_0 h1 =>
arb (.val l_a0 h1) call fun v_2 h3 =>
arb (.of (bldR [.nils, (.int .i64 0)] [(0, 1, v_2)]) h3) call fun v_4 h5 =>
arb (boxR v_4 h5) call fun v_6 h7 =>
arb (.val v_6 h7) call fun f_8 h9 =>
arb (.call F_desk_New [(.int .i64 0)] h9) call fun v_10 h11 =>
arb (.val v_10 h11) call fun d_12 h13 =>
lt (sqK (J_precentorlaw22_DeskPolls_0 P call fuel k) k) fun k199 =>
arb (.call F_precentorlaw22_known [] h13) call fun v_200 h201 =>
arb (.of (aUn P .not v_200) h201) call fun v_202 h203 =>
arb (.val v_202 h203) call fun v_204 h205 =>
gd (wantB v_204 false) (fun c => arb (.val d_12 h205) call c) h205 fun v_206 h207 =>
gd (wantB v_204 false) (fun c => arb (.of (aBin P .eql 22 (.tmp 19) (.const (.pointer none)) v_206 .nilp) h207) call c) h207 fun v_208 h209 =>
arb (pkR v_204 (.bool true) v_208 h209) call fun v_210 h211 =>
arb (.val v_210 h211) call fun v_212 h213 =>
gd (wantB v_212 false) (fun c => arb (.val d_12 h213) call c) h213 fun v_214 h215 =>
gd (wantB v_212 false) (fun c => arb (.call F_desk_Desk_Attach [v_214, (.int .i64 2)] h215) call c) h215 fun v_216 h217 =>
gd (wantB v_212 false) (fun c => arb (.of (aBin P .neq 24 (.tmp 24) (.const (.int .i64 0)) v_216 (.int .i64 0)) h217) call c) h217 fun v_218 h219 =>
arb (pkR v_212 (.bool true) v_218 h219) call fun v_220 h221 =>
arb (.val v_220 h221) call fun v_222 h223 =>
gd (wantB v_222 false) (fun c => arb (.val d_12 h223) call c) h223 fun v_224 h225 =>
gd (wantB v_222 false) (fun c => arb (.call F_desk_Desk_Attach [v_224, (.int .i64 3)] h225) call c) h225 fun v_226 h227 =>
gd (wantB v_222 false) (fun c => arb (.of (aBin P .neq 24 (.tmp 29) (.const (.int .i64 0)) v_226 (.int .i64 0)) h227) call c) h227 fun v_228 h229 =>
arb (pkR v_222 (.bool true) v_228 h229) call fun v_230 h231 =>
cb v_230 (
arb (.val (.bool false) h231) call fun v_232 h233 =>
k199 .ret (upd (upd (upd (upd (upd (upd (upd (upd (upd (upd (upd (upd (upd (upd (upd (upd (upd (upd (upd (upd (upd (upd (upd (upd (enterT [l_a0]) 2 v_0) 12 v_2) 13 v_4) 14 v_6) 3 f_8) 15 v_10) 4 d_12) 16 v_200) 17 v_202) 18 v_204) 19 v_206) 20 v_208) 21 v_210) 22 v_212) 23 v_214) 24 v_216) 25 v_218) 26 v_220) 27 v_222) 28 v_224) 29 v_226) 30 v_228) 31 v_230) 2 v_232) h233) (
k199 .normal (upd (upd (upd (upd (upd (upd (upd (upd (upd (upd (upd (upd (upd (upd (upd (upd (upd (upd (upd (upd (upd (upd (upd (enterT [l_a0]) 2 v_0) 12 v_2) 13 v_4) 14 v_6) 3 f_8) 15 v_10) 4 d_12) 16 v_200) 17 v_202) 18 v_204) 19 v_206) 20 v_208) 21 v_210) 22 v_212) 23 v_214) 24 v_216) 25 v_218) 26 v_220) 27 v_222) 28 v_224) 29 v_226) 30 v_228) 31 v_230) h231)
theorem E_precentorlaw22_DeskPolls (call : FuncId → List AVal → Heap → Res AVal) (fuel : Nat) (l_a0 : AVal) (h : Heap) : bodyR Try.prog call fuel Try.f6 [l_a0] h = S_precentorlaw22_DeskPolls Try.prog call fuel l_a0 h := by kernel_rfl
theorem R_precentorlaw22_DeskPolls {X : XTab} (l_a0 : AVal) {h : Heap} {Q : AVal → Heap → Prop} (hx : X F_precentorlaw22_DeskPolls [l_a0] = none) (q : Tells (fun m => S_precentorlaw22_DeskPolls Try.prog (acallX Try.prog X m) m l_a0 h) Q) :
    Tells (fun m => acallX Try.prog X m F_precentorlaw22_DeskPolls [l_a0] h) Q :=
  Tells.later (q.le fun m => (E_precentorlaw22_DeskPolls (acallX Try.prog X m) m l_a0 h) ▸ acallX_le Try.func6 hx m h)

/-! ### precentor/precentorlaw22.known -/

def S_precentorlaw22_known (P : Program) (call : FuncId → List AVal → Heap → Res AVal) (fuel : Nat) (h : Heap) : Res AVal :=
lt (retK P [.tmp 0]) fun k =>
arb (.val (.bool false) h) call fun v_0 h1 =>
arb (.call F_precentorlaw22_DeskKnown [] h1) call fun v_2 h3 =>
arb (.val v_2 h3) call fun v_4 h5 =>
k .ret (upd (upd (upd (enterT []) 0 v_0) 1 v_2) 0 v_4) h5
theorem E_precentorlaw22_known (call : FuncId → List AVal → Heap → Res AVal) (fuel : Nat) (h : Heap) : bodyR Try.prog call fuel Try.f17 [] h = S_precentorlaw22_known Try.prog call fuel  h := by kernel_rfl
theorem R_precentorlaw22_known {X : XTab} {h : Heap} {Q : AVal → Heap → Prop} (hx : X F_precentorlaw22_known [] = none) (q : Tells (fun m => S_precentorlaw22_known Try.prog (acallX Try.prog X m) m  h) Q) :
    Tells (fun m => acallX Try.prog X m F_precentorlaw22_known [] h) Q :=
  Tells.later (q.le fun m => (E_precentorlaw22_known (acallX Try.prog X m) m  h) ▸ acallX_le Try.func17 hx m h)

/-! ### precentor/precentorlaw22.sameChange -/

def S_precentorlaw22_sameChange (P : Program) (call : FuncId → List AVal → Heap → Res AVal) (fuel : Nat) (a_a0 b_a1 : AVal) (h : Heap) : Res AVal :=
lt (retK P [.tmp 4]) fun k =>
arb (boxR a_a0 h) call fun a_0 h1 =>
arb (boxR b_a1 h1) call fun b_2 h3 =>
arb (.val (.bool false) h3) call fun v_4 h5 =>
arb (.of (fadR 0 a_0) h5) call fun v_6 h7 =>
arb (.of (ld1 h7 v_6) h7) call fun v_8 h9 =>
arb (.of (fadR 0 b_2) h9) call fun v_10 h11 =>
arb (.of (ld1 h11 v_10) h11) call fun v_12 h13 =>
arb (.of (aBin P .eql 4 (.tmp 6) (.tmp 8) v_8 v_12) h13) call fun v_14 h15 =>
arb (.val v_14 h15) call fun v_16 h17 =>
gd (wantB v_16 true) (fun c => arb (.of (fadR 1 a_0) h17) call c) h17 fun v_18 h19 =>
gd (wantB v_16 true) (fun c => arb (.of (ldn 4 h19 v_18) h19) call c) h19 fun v_20 h21 =>
gd (wantB v_16 true) (fun c => arb (.of (fadR 1 b_2) h21) call c) h21 fun v_22 h23 =>
gd (wantB v_16 true) (fun c => arb (.of (ldn 4 h23 v_22) h23) call c) h23 fun v_24 h25 =>
gd (wantB v_16 true) (fun c => arb (.call F_precentorref1_SameSub [v_20, v_24] h25) call c) h25 fun v_26 h27 =>
arb (pkR v_16 v_26 (.bool false) h27) call fun v_28 h29 =>
arb (.val v_28 h29) call fun v_30 h31 =>
k .ret (upd (upd (upd (upd (upd (upd (upd (upd (upd (upd (upd (upd (upd (upd (upd (upd (enterT [a_a0, b_a1]) 2 a_0) 3 b_2) 4 v_4) 5 v_6) 6 v_8) 7 v_10) 8 v_12) 9 v_14) 10 v_16) 11 v_18) 12 v_20) 13 v_22) 14 v_24) 15 v_26) 16 v_28) 4 v_30) h31
theorem E_precentorlaw22_sameChange (call : FuncId → List AVal → Heap → Res AVal) (fuel : Nat) (a_a0 b_a1 : AVal) (h : Heap) : bodyR Try.prog call fuel Try.f23 [a_a0, b_a1] h = S_precentorlaw22_sameChange Try.prog call fuel a_a0 b_a1 h := by kernel_rfl
theorem R_precentorlaw22_sameChange {X : XTab} (a_a0 b_a1 : AVal) {h : Heap} {Q : AVal → Heap → Prop} (hx : X F_precentorlaw22_sameChange [a_a0, b_a1] = none) (q : Tells (fun m => S_precentorlaw22_sameChange Try.prog (acallX Try.prog X m) m a_a0 b_a1 h) Q) :
    Tells (fun m => acallX Try.prog X m F_precentorlaw22_sameChange [a_a0, b_a1] h) Q :=
  Tells.later (q.le fun m => (E_precentorlaw22_sameChange (acallX Try.prog X m) m a_a0 b_a1 h) ▸ acallX_le Try.func23 hx m h)

/-! ### precentor/precentorlaw22.sameSeen -/

def S_precentorlaw22_sameSeen (P : Program) (call : FuncId → List AVal → Heap → Res AVal) (fuel : Nat) (a_a0 b_a1 : AVal) (h : Heap) : Res AVal :=
lt (retK P [.tmp 4]) fun k =>
arb (boxR a_a0 h) call fun a_0 h1 =>
arb (boxR b_a1 h1) call fun b_2 h3 =>
arb (.val (.bool false) h3) call fun v_4 h5 =>
arb (.of (fadR 0 a_0) h5) call fun v_6 h7 =>
arb (.of (ld1 h7 v_6) h7) call fun v_8 h9 =>
arb (.of (fadR 0 b_2) h9) call fun v_10 h11 =>
arb (.of (ld1 h11 v_10) h11) call fun v_12 h13 =>
arb (.of (aBin P .eql 3 (.tmp 6) (.tmp 8) v_8 v_12) h13) call fun v_14 h15 =>
arb (.val v_14 h15) call fun v_16 h17 =>
gd (wantB v_16 true) (fun c => arb (.of (fadR 1 a_0) h17) call c) h17 fun v_18 h19 =>
gd (wantB v_16 true) (fun c => arb (.of (ld1 h19 v_18) h19) call c) h19 fun v_20 h21 =>
gd (wantB v_16 true) (fun c => arb (.of (fadR 1 b_2) h21) call c) h21 fun v_22 h23 =>
gd (wantB v_16 true) (fun c => arb (.of (ld1 h23 v_22) h23) call c) h23 fun v_24 h25 =>
gd (wantB v_16 true) (fun c => arb (.of (aBin P .eql 3 (.tmp 12) (.tmp 14) v_20 v_24) h25) call c) h25 fun v_26 h27 =>
arb (pkR v_16 v_26 (.bool false) h27) call fun v_28 h29 =>
arb (.val v_28 h29) call fun v_30 h31 =>
gd (wantB v_30 true) (fun c => arb (.of (fadR 2 a_0) h31) call c) h31 fun v_32 h33 =>
gd (wantB v_30 true) (fun c => arb (.of (ld1 h33 v_32) h33) call c) h33 fun v_34 h35 =>
gd (wantB v_30 true) (fun c => arb (.of (fadR 2 b_2) h35) call c) h35 fun v_36 h37 =>
gd (wantB v_30 true) (fun c => arb (.of (ld1 h37 v_36) h37) call c) h37 fun v_38 h39 =>
gd (wantB v_30 true) (fun c => arb (.of (aBin P .eql 3 (.tmp 19) (.tmp 21) v_34 v_38) h39) call c) h39 fun v_40 h41 =>
arb (pkR v_30 v_40 (.bool false) h41) call fun v_42 h43 =>
arb (.val v_42 h43) call fun v_44 h45 =>
gd (wantB v_44 true) (fun c => arb (.of (fadR 3 a_0) h45) call c) h45 fun v_46 h47 =>
gd (wantB v_44 true) (fun c => arb (.of (ld1 h47 v_46) h47) call c) h47 fun v_48 h49 =>
gd (wantB v_44 true) (fun c => arb (.of (fadR 3 b_2) h49) call c) h49 fun v_50 h51 =>
gd (wantB v_44 true) (fun c => arb (.of (ld1 h51 v_50) h51) call c) h51 fun v_52 h53 =>
gd (wantB v_44 true) (fun c => arb (.call F_precentorref1_SameAttrs [v_48, v_52] h53) call c) h53 fun v_54 h55 =>
arb (pkR v_44 v_54 (.bool false) h55) call fun v_56 h57 =>
arb (.val v_56 h57) call fun v_58 h59 =>
k .ret (upd (upd (upd (upd (upd (upd (upd (upd (upd (upd (upd (upd (upd (upd (upd (upd (upd (upd (upd (upd (upd (upd (upd (upd (upd (upd (upd (upd (upd (upd (enterT [a_a0, b_a1]) 2 a_0) 3 b_2) 4 v_4) 5 v_6) 6 v_8) 7 v_10) 8 v_12) 9 v_14) 10 v_16) 11 v_18) 12 v_20) 13 v_22) 14 v_24) 15 v_26) 16 v_28) 17 v_30) 18 v_32) 19 v_34) 20 v_36) 21 v_38) 22 v_40) 23 v_42) 24 v_44) 25 v_46) 26 v_48) 27 v_50) 28 v_52) 29 v_54) 30 v_56) 4 v_58) h59
theorem E_precentorlaw22_sameSeen (call : FuncId → List AVal → Heap → Res AVal) (fuel : Nat) (a_a0 b_a1 : AVal) (h : Heap) : bodyR Try.prog call fuel Try.f30 [a_a0, b_a1] h = S_precentorlaw22_sameSeen Try.prog call fuel a_a0 b_a1 h := by kernel_rfl
theorem R_precentorlaw22_sameSeen {X : XTab} (a_a0 b_a1 : AVal) {h : Heap} {Q : AVal → Heap → Prop} (hx : X F_precentorlaw22_sameSeen [a_a0, b_a1] = none) (q : Tells (fun m => S_precentorlaw22_sameSeen Try.prog (acallX Try.prog X m) m a_a0 b_a1 h) Q) :
    Tells (fun m => acallX Try.prog X m F_precentorlaw22_sameSeen [a_a0, b_a1] h) Q :=
  Tells.later (q.le fun m => (E_precentorlaw22_sameSeen (acallX Try.prog X m) m a_a0 b_a1 h) ▸ acallX_le Try.func30 hx m h)


end Go.Proofs.Ytbolfamaffbnnaa
