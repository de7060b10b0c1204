/-
  Functions of precentorlaw16 in the form of YtbpbdigehfkjjaaABS (printed by a program of ours, gen.lean).
-/
import Derived.Test.YtbpbdigehfkjjaaSIds
set_option linter.unusedVariables false
namespace Go.Proofs.Ytbpbdigehfkjjaa
open Go.Ab
/-! ### precentor/precentorlaw16.HoldOrder -/
def J_precentorlaw16_HoldOrder_3 (P : Program) (call : FuncId → List AVal → Heap → Res AVal) (fuel : Nat) (k : Kn (AVal)) (t : T) (h : Heap) : Res (AVal) :=
arb (.val (t 15) h) call fun v_44 h45 =>
arb (.val (t 6) h45) call fun v_46 h47 =>
arb (.of (aBin P .add 3 (.tmp 162) (.const (.int .i64 1)) v_46 (.int .i64 1)) h47) call fun v_48 h49 =>
arb (.of (aBin P .eql 3 (.tmp 161) (.tmp 163) v_44 v_48) h49) call fun v_50 h51 =>
arb (.val v_50 h51) call fun v_52 h53 =>
gd (wantB v_52 true) (fun c => arb (.val (t 14) h53) call c) h53 fun v_54 h55 =>
gd (wantB v_52 true) (fun c => arb (.call F_hold_Hold_Len [v_54] h55) call c) h55 fun v_56 h57 =>
gd (wantB v_52 true) (fun c => arb (.of (aBin P .eql 3 (.tmp 167) (.const (.int .i64 0)) v_56 (.int .i64 0)) h57) call c) h57 fun v_58 h59 =>
arb (pkR v_52 v_58 (.bool false) h59) call fun v_60 h61 =>
arb (.val v_60 h61) call fun v_62 h63 =>
k .ret (upd (upd (upd (upd (upd (upd (upd (upd (upd (upd t 161 v_44) 162 v_46) 163 v_48) 164 v_50) 165 v_52) 166 v_54) 167 v_56) 168 v_58) 169 v_60) 4 v_62) h63

def J_precentorlaw16_HoldOrder_6 (P : Program) (call : FuncId → List AVal → Heap → Res AVal) (fuel : Nat) (k : Kn (Ex × T)) (t : T) (h : Heap) : Res (Ex × T) :=
arb (.val (t 17) h) call fun v_68 h69 =>
arb (.of (aBin P .add 3 (.tmp 121) (.const (.int .i64 1)) v_68 (.int .i64 1)) h69) call fun v_70 h71 =>
arb (.val v_70 h71) call fun i_72 h73 =>
k .normal (upd (upd (upd t 121 v_68) 122 v_70) 17 i_72) h73

def J_precentorlaw16_HoldOrder_10 (P : Program) (call : FuncId → List AVal → Heap → Res AVal) (fuel : Nat) (k : Kn (Ex × T)) (t : T) (h : Heap) : Res (Ex × T) :=
arb (.val (t 15) h) call fun v_110 h111 =>
arb (.of (aBin P .add 3 (.tmp 159) (.const (.int .i64 1)) v_110 (.int .i64 1)) h111) call fun v_112 h113 =>
arb (.val v_112 h113) call fun next_114 h115 =>
k .normal (upd (upd (upd t 159 v_110) 160 v_112) 15 next_114) h115

def J_precentorlaw16_HoldOrder_9 (P : Program) (call : FuncId → List AVal → Heap → Res AVal) (fuel : Nat) (k : Kn (Ex × T)) (t : T) (h : Heap) : Res (Ex × T) :=
lt (sqK (J_precentorlaw16_HoldOrder_10 P call fuel k) k) fun k116 =>
arb (.val (t 19) h) call fun v_117 h118 =>
arb (.of (aUn P .not v_117) h118) call fun v_119 h120 =>
cb v_119 (
k116 (.exit 8) (upd (upd t 157 v_117) 158 v_119) h120) (
k116 .normal (upd (upd t 157 v_117) 158 v_119) h120)

def L_precentorlaw16_HoldOrder_8 (P : Program) (call : FuncId → List AVal → Heap → Res AVal) (fuel : Nat) (t : T) (h : Heap) : Res (Ex × T) :=
lt okK fun k =>
lt (blkK 9 k) fun k93 =>
arb (.val (t 14) h) call fun v_94 h95 =>
arb (.call F_hold_Hold_Next [v_94] h95) call fun v_96 h97 =>
arb (.val v_96 h97) call fun v_98 h99 =>
arb (extR v_98 0 h99) call fun v_100 h101 =>
arb (extR v_98 1 h101) call fun v_102 h103 =>
arb (newR [(.int .i64 0), (.int .i64 0), (.int .i64 0), (.int .i64 0), (.int .i64 0), .nils, .nils] h103) call fun e_104 h105 =>
arb (stR 7 h105 e_104 v_100) call fun v_106 h107 =>
arb (.val v_102 h107) call fun ok_108 h109 =>
lt (sqK (J_precentorlaw16_HoldOrder_9 P call fuel k93) k93) fun k121 =>
arb (.val ok_108 h109) call fun v_122 h123 =>
arb (.val (t 16) h123) call fun v_124 h125 =>
arb (.val (t 15) h125) call fun v_126 h127 =>
arb (.of (ixsR 1 v_124 v_126) h127) call fun v_128 h129 =>
arb (.of (ld1 h129 v_128) h129) call fun v_130 h131 =>
arb (.of (aBin P .neq 4 (.tmp 142) (.tmp 146) v_122 v_130) h131) call fun v_132 h133 =>
arb (.val v_132 h133) call fun v_134 h135 =>
gd (wantB v_134 false) (fun c => arb (.val ok_108 h135) call c) h135 fun v_136 h137 =>
gd (wantB v_134 false) (fun c => arb (.val v_136 h137) call c) h137 fun v_138 h139 =>
gd (wantB v_138 true) (fun c => arb (.of (fadR 2 e_104) h139) call c) h139 fun v_140 h141 =>
gd (wantB v_138 true) (fun c => arb (.of (ld1 h141 v_140) h141) call c) h141 fun v_142 h143 =>
gd (wantB v_138 true) (fun c => arb (.val (t 15) h143) call c) h143 fun v_144 h145 =>
gd (wantB v_138 true) (fun c => arb (.of (aBin P .neq 3 (.tmp 152) (.tmp 153) v_142 v_144) h145) call c) h145 fun v_146 h147 =>
gd (wantB v_134 false) (fun c => arb (pkR v_138 v_146 (.bool false) h147) call c) h147 fun v_148 h149 =>
arb (pkR v_134 (.bool true) v_148 h149) call fun v_150 h151 =>
cb v_150 (
arb (.val (.bool false) h151) call fun v_152 h153 =>
k121 .ret (upd (upd (upd (upd (upd (upd (upd (upd (upd (upd (upd (upd (upd (upd (upd (upd (upd (upd (upd (upd (upd (upd (upd t 138 v_94) 139 v_96) 137 v_98) 140 v_100) 141 v_102) 18 e_104) 19 ok_108) 142 v_122) 143 v_124) 144 v_126) 145 v_128) 146 v_130) 147 v_132) 148 v_134) 149 v_136) 150 v_138) 151 v_140) 152 v_142) 153 v_144) 154 v_146) 155 v_148) 156 v_150) 4 v_152) h153) (
k121 .normal (upd (upd (upd (upd (upd (upd (upd (upd (upd (upd (upd (upd (upd (upd (upd (upd (upd (upd (upd (upd (upd (upd t 138 v_94) 139 v_96) 137 v_98) 140 v_100) 141 v_102) 18 e_104) 19 ok_108) 142 v_122) 143 v_124) 144 v_126) 145 v_128) 146 v_130) 147 v_132) 148 v_134) 149 v_136) 150 v_138) 151 v_140) 152 v_142) 153 v_144) 154 v_146) 155 v_148) 156 v_150) h151)

def J_precentorlaw16_HoldOrder_7 (P : Program) (call : FuncId → List AVal → Heap → Res AVal) (fuel : Nat) (k : Kn (Ex × T)) (t : T) (h : Heap) : Res (Ex × T) :=
arb (.val (t 16) h) call fun v_76 h77 =>
arb (.val (t 8) h77) call fun v_78 h79 =>
arb (.val (t 17) h79) call fun v_80 h81 =>
arb (.of (ixsR 7 v_78 v_80) h81) call fun v_82 h83 =>
arb (.of (fadR 2 v_82) h83) call fun v_84 h85 =>
arb (.of (ld1 h85 v_84) h85) call fun v_86 h87 =>
arb (.of (ixsR 1 v_76 v_86) h87) call fun v_88 h89 =>
arb (stR 1 h89 v_88 (.bool true)) call fun v_90 h91 =>
lt (blkK 8 k) fun k92 =>
(loopN (L_precentorlaw16_HoldOrder_8 P call fuel) fuel (upd (upd (upd (upd (upd (upd (upd t 130 v_76) 131 v_78) 132 v_80) 133 v_82) 134 v_84) 135 v_86) 136 v_88) h91).bind (lpK k92)

def J_precentorlaw16_HoldOrder_5 (P : Program) (call : FuncId → List AVal → Heap → Res AVal) (fuel : Nat) (k : Kn (Ex × T)) (t : T) (h : Heap) : Res (Ex × T) :=
lt (sqK (J_precentorlaw16_HoldOrder_6 P call fuel k) k) fun k74 =>
lt (blkK 7 k74) fun k75 =>
lt (sqK (J_precentorlaw16_HoldOrder_7 P call fuel k75) k75) fun k154 =>
arb (.val (t 14) h) call fun v_155 h156 =>
arb (.val (t 8) h156) call fun v_157 h158 =>
arb (.val (t 17) h158) call fun v_159 h160 =>
arb (.of (ixsR 7 v_157 v_159) h160) call fun v_161 h162 =>
arb (.of (ldn 7 h162 v_161) h162) call fun v_163 h164 =>
arb (.call F_hold_Hold_Put [v_155, v_163] h164) call fun v_165 h166 =>
arb (.of (aBin P .neq 40 (.tmp 128) (.const (.int .i64 0)) v_165 (.int .i64 0)) h166) call fun v_167 h168 =>
cb v_167 (
arb (.val (.bool false) h168) call fun v_169 h170 =>
k154 .ret (upd (upd (upd (upd (upd (upd (upd (upd t 123 v_155) 124 v_157) 125 v_159) 126 v_161) 127 v_163) 128 v_165) 129 v_167) 4 v_169) h170) (
k154 .normal (upd (upd (upd (upd (upd (upd (upd t 123 v_155) 124 v_157) 125 v_159) 126 v_161) 127 v_163) 128 v_165) 129 v_167) h168)

def L_precentorlaw16_HoldOrder_4 (P : Program) (call : FuncId → List AVal → Heap → Res AVal) (fuel : Nat) (t : T) (h : Heap) : Res (Ex × T) :=
lt okK fun k =>
lt (sqK (J_precentorlaw16_HoldOrder_5 P call fuel k) k) fun k171 =>
arb (.val (t 17) h) call fun v_172 h173 =>
arb (.val (t 6) h173) call fun v_174 h175 =>
arb (.of (aBin P .lss 3 (.tmp 118) (.tmp 119) v_172 v_174) h175) call fun v_176 h177 =>
cb v_176 (
k171 .normal (upd (upd (upd t 118 v_172) 119 v_174) 120 v_176) h177) (
k171 (.exit 6) (upd (upd (upd t 118 v_172) 119 v_174) 120 v_176) h177)

def J_precentorlaw16_HoldOrder_2 (P : Program) (call : FuncId → List AVal → Heap → Res AVal) (fuel : Nat) (k : Kn (AVal)) (t : T) (h : Heap) : Res (AVal) :=
arb (.val (.int .i64 1) h) call fun next_34 h35 =>
arb (.val (t 6) h35) call fun v_36 h37 =>
arb (.of (aBin P .add 3 (.tmp 115) (.const (.int .i64 2)) v_36 (.int .i64 2)) h37) call fun v_38 h39 =>
arb (makR 1 1 [(.bool false)] h39 v_38 v_38) call fun v_40 h41 =>
arb (.val v_40 h41) call fun there_42 h43 =>
lt (sqK (J_precentorlaw16_HoldOrder_3 P call fuel k) k) fun k64 =>
arb (.val (.int .i64 0) h43) call fun i_65 h66 =>
lt (blkK 6 k64) fun k67 =>
(loopN (L_precentorlaw16_HoldOrder_4 P call fuel) fuel (upd (upd (upd (upd (upd (upd t 15 next_34) 115 v_36) 116 v_38) 117 v_40) 16 there_42) 17 i_65) h66).bind (lpK k67)

def J_precentorlaw16_HoldOrder_1 (P : Program) (call : FuncId → List AVal → Heap → Res AVal) (fuel : Nat) (k : Kn (AVal)) (t : T) (h : Heap) : Res (AVal) :=
arb (.val (t 6) h) call fun v_26 h27 =>
arb (bslR 1 [(.int .i64 0), (.int .i64 0), (.int .i64 0)] 3 h27 [(0, 1, (.int .i64 0)), (1, 1, (.int .i64 1)), (2, 1, (.int .i64 2))]) call fun v_28 h29 =>
arb (.call F_hold_New [v_26, v_28] h29) call fun v_30 h31 =>
arb (.val v_30 h31) call fun h_32 h33 =>
lt (sqK (J_precentorlaw16_HoldOrder_2 P call fuel k) k) fun k178 =>
arb (.call F_precentorlaw16_known [] h33) call fun v_179 h180 =>
arb (.of (aUn P .not v_179) h180) call fun v_181 h182 =>
arb (.val v_181 h182) call fun v_183 h184 =>
gd (wantB v_183 false) (fun c => arb (.val h_32 h184) call c) h184 fun v_185 h186 =>
gd (wantB v_183 false) (fun c => arb (.of (aBin P .eql 36 (.tmp 112) (.const (.pointer none)) v_185 .nilp) h186) call c) h186 fun v_187 h188 =>
arb (pkR v_183 (.bool true) v_187 h188) call fun v_189 h190 =>
cb v_189 (
arb (.val (.bool false) h190) call fun v_191 h192 =>
k178 .ret (upd (upd (upd (upd (upd (upd (upd (upd (upd (upd (upd t 106 v_26) 107 v_28) 108 v_30) 14 h_32) 109 v_179) 110 v_181) 111 v_183) 112 v_185) 113 v_187) 114 v_189) 4 v_191) h192) (
k178 .normal (upd (upd (upd (upd (upd (upd (upd (upd (upd (upd t 106 v_26) 107 v_28) 108 v_30) 14 h_32) 109 v_179) 110 v_181) 111 v_183) 112 v_185) 113 v_187) 114 v_189) h190)

def J_precentorlaw16_HoldOrder_13 (P : Program) (call : FuncId → List AVal → Heap → Res AVal) (fuel : Nat) (k : Kn (Ex × T)) (t : T) (h : Heap) : Res (Ex × T) :=
arb (.val (t 12) h) call fun v_197 h198 =>
arb (.of (aBin P .add 3 (.tmp 82) (.const (.int .i64 1)) v_197 (.int .i64 1)) h198) call fun v_199 h200 =>
arb (.val v_199 h200) call fun i_201 h202 =>
k .normal (upd (upd (upd t 82 v_197) 83 v_199) 12 i_201) h202

def J_precentorlaw16_HoldOrder_12 (P : Program) (call : FuncId → List AVal → Heap → Res AVal) (fuel : Nat) (k : Kn (Ex × T)) (t : T) (h : Heap) : Res (Ex × T) :=
lt (sqK (J_precentorlaw16_HoldOrder_13 P call fuel k) k) fun k203 =>
lt (blkK 5 k203) fun k204 =>
arb (.val (t 1) h) call fun v_205 h206 =>
arb (.val (t 12) h206) call fun v_207 h208 =>
arb (.of (ixsR 1 v_205 v_207) h208) call fun v_209 h210 =>
arb (.of (ld1 h210 v_209) h210) call fun v_211 h212 =>
arb (.val (t 6) h212) call fun v_213 h214 =>
arb (.call F_precentorhand_Pick [v_211, v_213] h214) call fun v_215 h216 =>
arb (.val v_215 h216) call fun k_217 h218 =>
obv (.val (t 8) h218) fun v_219 =>
obv (.val k_217 h218) fun v_221 =>
obv (.of (ixsR 7 v_219 v_221) h218) fun v_223 =>
obv (.of (ldn 7 h218 v_223) h218) fun v_225 => ifb true <|
arbV (bslR 7 [(.int .i64 0), (.int .i64 0), (.int .i64 0), (.int .i64 0), (.int .i64 0), .nils, .nils] 1 h218 [(0, 7, v_225)]) fun v_227 h228 =>
arbV (bslR 7 [] 0 h228 []) fun v_229 h230 =>
obv (.val (t 8) h230) fun v_231 =>
obv (.val k_217 h230) fun v_233 =>
obv (.of (slcR 7 v_231 none (some v_233) none) h230) fun v_235 =>
arbE (appR 7 88 (killIf true h230 h218.next) v_229 v_235) call fun v_237 h238 => lt (setIf true h238 h230 h218.next) fun g238 => ifb (true && (isV v_225 (arVal (.of (ldn 7 (killIf true (killIf true g238 h228.next) h218.next) v_223) (killIf true (killIf true g238 h228.next) h218.next))) && true)) <|
obv (.val (t 8) g238) fun v_239 =>
obv (.val k_217 g238) fun v_241 =>
obv (.of (aBin P .add 3 (.tmp 101) (.const (.int .i64 1)) v_241 (.int .i64 1)) g238) fun v_243 =>
obv (.of (slcR 7 v_239 (some v_243) none none) g238) fun v_245 =>
arbE (appR 7 88 (killIf true g238 h218.next) v_237 v_245) call fun v_247 h248 => lt (setIf true h248 g238 h218.next) fun g248 => ifb (true && (isV v_225 (arVal (.of (ldn 7 (killIf true (killIf true g248 h228.next) h218.next) v_223) (killIf true (killIf true g248 h228.next) h218.next))) && true)) <|
arbE (appR 7 88 g248 v_227 v_247) call fun v_249 h250 => lt h250 fun g250 => ifb (true && true) <|
obv (.val v_249 g250) fun all_251 =>
k204 .normal (upd (upd (upd (upd (upd (upd (upd (upd (upd (upd (upd (upd (upd (upd (upd (upd (upd (upd (upd (upd (upd (upd (upd (upd t 84 v_205) 85 v_207) 86 v_209) 87 v_211) 88 v_213) 89 v_215) 13 k_217) 90 v_219) 91 v_221) 92 v_223) 93 v_225) 94 v_227) 95 v_229) 96 v_231) 97 v_233) 98 v_235) 99 v_237) 100 v_239) 101 v_241) 102 v_243) 103 v_245) 104 v_247) 105 v_249) 8 all_251) g250

def L_precentorlaw16_HoldOrder_11 (P : Program) (call : FuncId → List AVal → Heap → Res AVal) (fuel : Nat) (t : T) (h : Heap) : Res (Ex × T) :=
lt okK fun k =>
lt (sqK (J_precentorlaw16_HoldOrder_12 P call fuel k) k) fun k253 =>
arb (.val (t 12) h) call fun v_254 h255 =>
arb (.val (t 1) h255) call fun v_256 h257 =>
arb (.of (lenL v_256) h257) call fun v_258 h259 =>
arb (.of (aBin P .lss 3 (.tmp 74) (.tmp 76) v_254 v_258) h259) call fun v_260 h261 =>
arb (.val v_260 h261) call fun v_262 h263 =>
gd (wantB v_262 true) (fun c => arb (.val (t 6) h263) call c) h263 fun v_264 h265 =>
gd (wantB v_262 true) (fun c => arb (.of (aBin P .gtr 3 (.tmp 79) (.const (.int .i64 1)) v_264 (.int .i64 1)) h265) call c) h265 fun v_266 h267 =>
arb (pkR v_262 v_266 (.bool false) h267) call fun v_268 h269 =>
cb v_268 (
k253 .normal (upd (upd (upd (upd (upd (upd (upd (upd t 74 v_254) 75 v_256) 76 v_258) 77 v_260) 78 v_262) 79 v_264) 80 v_266) 81 v_268) h269) (
k253 (.exit 4) (upd (upd (upd (upd (upd (upd (upd (upd t 74 v_254) 75 v_256) 76 v_258) 77 v_260) 78 v_262) 79 v_264) 80 v_266) 81 v_268) h269)

def J_precentorlaw16_HoldOrder_0 (P : Program) (call : FuncId → List AVal → Heap → Res AVal) (fuel : Nat) (k : Kn (AVal)) (t : T) (h : Heap) : Res (AVal) :=
lt (sqK (J_precentorlaw16_HoldOrder_1 P call fuel k) k) fun k193 =>
arb (.val (.int .i64 0) h) call fun i_194 h195 =>
lt (blkK 4 k193) fun k196 =>
(loopN (L_precentorlaw16_HoldOrder_11 P call fuel) fuel (upd t 12 i_194) h195).bind (lpK k196)

def J_precentorlaw16_HoldOrder_16 (P : Program) (call : FuncId → List AVal → Heap → Res AVal) (fuel : Nat) (k : Kn (Ex × T)) (t : T) (h : Heap) : Res (Ex × T) :=
arb (.val (t 9) h) call fun v_274 h275 =>
arb (.of (aBin P .add 3 (.tmp 30) (.const (.int .i64 1)) v_274 (.int .i64 1)) h275) call fun v_276 h277 =>
arb (.val v_276 h277) call fun i_278 h279 =>
k .normal (upd (upd (upd t 30 v_274) 31 v_276) 9 i_278) h279

def J_precentorlaw16_HoldOrder_17 (P : Program) (call : FuncId → List AVal → Heap → Res AVal) (fuel : Nat) (k : Kn (Ex × T)) (t : T) (h : Heap) : Res (Ex × T) :=
obv (.of (fadR 6 (t 10)) h) fun v_292 =>
obv (.of (ld1 h v_292) h) fun v_294 => ifb true <|
obv (.val (t 5) h) fun v_296 =>
arbE (.call F_precentorhand_Feed_Next [v_296, (.int .i64 9)] h) call fun v_298 h299 => lt h299 fun g299 => ifb (true && (isV v_294 (arVal (.of (ld1 g299 v_292) g299)) && true)) <|
obv (.of (aBin P .add 3 (.const (.int .i64 1)) (.tmp 64) (.int .i64 1) v_298) g299) fun v_300 =>
obv (.of (bldR [(.int .i64 0), (.int .i64 0)] [(0, 1, (.int .i64 5)), (1, 1, v_300)]) g299) fun v_302 =>
arbV (bslR 2 [(.int .i64 0), (.int .i64 0)] 1 g299 [(0, 2, v_302)]) fun v_304 h305 =>
arbE (appR 2 16 h305 v_294 v_304) call fun v_306 h307 => lt h307 fun g307 => ifb (true && true) <|
obv (.of (fadR 6 (t 10)) g307) fun v_308 =>
arbE (stR 1 g307 v_308 v_306) call fun v_310 h311 => lt h311 fun g311 => ifb (true && true) <|
arb (.val (t 8) g311) call fun v_312 h313 =>
arb (.of (ldn 7 h313 (t 10)) h313) call fun v_314 h315 =>
arb (bslR 7 [(.int .i64 0), (.int .i64 0), (.int .i64 0), (.int .i64 0), (.int .i64 0), .nils, .nils] 1 h315 [(0, 7, v_314)]) call fun v_316 h317 =>
arb (appR 7 88 h317 v_312 v_316) call fun v_318 h319 =>
arb (.val v_318 h319) call fun all_320 h321 =>
k .normal (upd (upd (upd (upd (upd (upd (upd (upd (upd (upd (upd (upd (upd (upd t 61 v_292) 62 v_294) 63 v_296) 64 v_298) 65 v_300) 66 v_302) 67 v_304) 68 v_306) 69 v_308) 70 v_312) 71 v_314) 72 v_316) 73 v_318) 8 all_320) h321

def J_precentorlaw16_HoldOrder_20 (P : Program) (call : FuncId → List AVal → Heap → Res AVal) (fuel : Nat) (k : Kn (Ex × T)) (t : T) (h : Heap) : Res (Ex × T) :=
arb (.val (t 11) h) call fun v_326 h327 =>
arb (.of (aBin P .add 3 (.tmp 37) (.const (.int .i64 1)) v_326 (.int .i64 1)) h327) call fun v_328 h329 =>
arb (.val v_328 h329) call fun a_330 h331 =>
k .normal (upd (upd (upd t 37 v_326) 38 v_328) 11 a_330) h331

def J_precentorlaw16_HoldOrder_19 (P : Program) (call : FuncId → List AVal → Heap → Res AVal) (fuel : Nat) (k : Kn (Ex × T)) (t : T) (h : Heap) : Res (Ex × T) :=
lt (sqK (J_precentorlaw16_HoldOrder_20 P call fuel k) k) fun k332 =>
lt (blkK 3 k332) fun k333 =>
arb (.val (t 11) h) call fun v_334 h335 =>
arb (.of (aBin P .eql 3 (.tmp 39) (.const (.int .i64 1)) v_334 (.int .i64 1)) h335) call fun v_336 h337 =>
arb (.val v_336 h337) call fun v_338 h339 =>
gd (wantB v_338 false) (fun c => arb (.val (t 5) h339) call c) h339 fun v_340 h341 =>
gd (wantB v_338 false) (fun c => arb (.call F_precentorhand_Feed_Next [v_340, (.int .i64 2)] h341) call c) h341 fun v_342 h343 =>
gd (wantB v_338 false) (fun c => arb (.of (aBin P .eql 3 (.tmp 43) (.const (.int .i64 1)) v_342 (.int .i64 1)) h343) call c) h343 fun v_344 h345 =>
arb (pkR v_338 (.bool true) v_344 h345) call fun v_346 h347 =>
cb v_346 (
arb (.val (t 11) h347) call fun v_348 h349 =>
arb (.of (ixpR 3 1 (t 7) v_348) h349) call fun v_350 h351 =>
arb (.of (ld1 h351 v_350) h351) call fun v_352 h353 =>
arb (.of (aBin P .add 3 (.tmp 48) (.const (.int .i64 1)) v_352 (.int .i64 1)) h353) call fun v_354 h355 =>
arb (.of (ixpR 3 1 (t 7) v_348) h355) call fun v_356 h357 =>
arb (stR 1 h357 v_356 v_354) call fun v_358 h359 =>
obv (.of (fadR 6 (t 10)) h359) fun v_360 =>
obv (.of (ld1 h359 v_360) h359) fun v_362 => ifb true <|
obv (.val (t 11) h359) fun v_364 =>
obv (.val (t 11) h359) fun v_366 =>
obv (.of (ixpR 3 1 (t 7) v_366) h359) fun v_368 =>
obv (.of (ld1 h359 v_368) h359) fun v_370 => ifb true <|
obv (.of (bldR [(.int .i64 0), (.int .i64 0)] [(0, 1, v_364), (1, 1, v_370)]) h359) fun v_372 =>
arbV (bslR 2 [(.int .i64 0), (.int .i64 0)] 1 h359 [(0, 2, v_372)]) fun v_374 h375 =>
arbE (appR 2 16 h375 v_362 v_374) call fun v_376 h377 => lt h377 fun g377 => ifb (true && true) <|
obv (.of (fadR 6 (t 10)) g377) fun v_378 =>
arbE (stR 1 g377 v_378 v_376) call fun v_380 h381 => lt h381 fun g381 => ifb (true && true) <|
k333 .normal (upd (upd (upd (upd (upd (upd (upd (upd (upd (upd (upd (upd (upd (upd (upd (upd (upd (upd (upd (upd (upd (upd t 39 v_334) 40 v_336) 41 v_338) 42 v_340) 43 v_342) 44 v_344) 45 v_346) 46 v_348) 47 v_350) 48 v_352) 49 v_354) 50 v_356) 51 v_360) 52 v_362) 53 v_364) 54 v_366) 55 v_368) 56 v_370) 57 v_372) 58 v_374) 59 v_376) 60 v_378) g381) (
k333 .normal (upd (upd (upd (upd (upd (upd (upd t 39 v_334) 40 v_336) 41 v_338) 42 v_340) 43 v_342) 44 v_344) 45 v_346) h347)

def L_precentorlaw16_HoldOrder_18 (P : Program) (call : FuncId → List AVal → Heap → Res AVal) (fuel : Nat) (t : T) (h : Heap) : Res (Ex × T) :=
lt okK fun k =>
lt (sqK (J_precentorlaw16_HoldOrder_19 P call fuel k) k) fun k382 =>
arb (.val (t 11) h) call fun v_383 h384 =>
arb (.of (aBin P .lss 3 (.tmp 35) (.const (.int .i64 3)) v_383 (.int .i64 3)) h384) call fun v_385 h386 =>
cb v_385 (
k382 .normal (upd (upd t 35 v_383) 36 v_385) h386) (
k382 (.exit 2) (upd (upd t 35 v_383) 36 v_385) h386)

def J_precentorlaw16_HoldOrder_15 (P : Program) (call : FuncId → List AVal → Heap → Res AVal) (fuel : Nat) (k : Kn (Ex × T)) (t : T) (h : Heap) : Res (Ex × T) :=
lt (sqK (J_precentorlaw16_HoldOrder_16 P call fuel k) k) fun k280 =>
lt (blkK 1 k280) fun k281 =>
arb (.val (t 9) h) call fun v_282 h283 =>
arb (.of (aBin P .add 3 (.tmp 32) (.const (.int .i64 1)) v_282 (.int .i64 1)) h283) call fun v_284 h285 =>
arb (.of (bldR [(.int .i64 0), (.int .i64 0), (.int .i64 0), (.int .i64 0), (.int .i64 0), .nils, .nils] [(0, 1, (.int .i64 1)), (2, 1, v_284)]) h285) call fun v_286 h287 =>
arb (newR [(.int .i64 0), (.int .i64 0), (.int .i64 0), (.int .i64 0), (.int .i64 0), .nils, .nils] h287) call fun e_288 h289 =>
arb (stR 7 h289 e_288 v_286) call fun v_290 h291 =>
lt (sqK (J_precentorlaw16_HoldOrder_17 P call fuel k281) k281) fun k322 =>
arb (.val (.int .i64 0) h291) call fun a_323 h324 =>
lt (blkK 2 k322) fun k325 =>
(loopN (L_precentorlaw16_HoldOrder_18 P call fuel) fuel (upd (upd (upd (upd (upd t 32 v_282) 33 v_284) 34 v_286) 10 e_288) 11 a_323) h324).bind (lpK k325)

def L_precentorlaw16_HoldOrder_14 (P : Program) (call : FuncId → List AVal → Heap → Res AVal) (fuel : Nat) (t : T) (h : Heap) : Res (Ex × T) :=
lt okK fun k =>
lt (sqK (J_precentorlaw16_HoldOrder_15 P call fuel k) k) fun k387 =>
arb (.val (t 9) h) call fun v_388 h389 =>
arb (.val (t 6) h389) call fun v_390 h391 =>
arb (.of (aBin P .lss 3 (.tmp 27) (.tmp 28) v_388 v_390) h391) call fun v_392 h393 =>
cb v_392 (
k387 .normal (upd (upd (upd t 27 v_388) 28 v_390) 29 v_392) h393) (
k387 (.exit 0) (upd (upd (upd t 27 v_388) 28 v_390) 29 v_392) h393)

def S_precentorlaw16_HoldOrder (P : Program) (call : FuncId → List AVal → Heap → Res AVal) (fuel : Nat) (l_a0 turns_a1 : AVal) (h : Heap) : Res AVal :=
lt (retK P [.tmp 4]) fun k =>
arb (.val (.bool false) h) call fun v_0 h1 =>
arb (.val l_a0 h1) call fun v_2 h3 =>
arb (.of (bldR [.nils, (.int .i64 0)] [(0, 1, v_2)]) h3) call fun v_4 h5 =>
arb (boxR v_4 h5) call fun v_6 h7 =>
arb (.val v_6 h7) call fun f_8 h9 =>
arb (.val f_8 h9) call fun v_10 h11 =>
arb (.call F_precentorhand_Feed_Next [v_10, (.int .i64 10)] h11) call fun v_12 h13 =>
arb (.of (aBin P .add 3 (.const (.int .i64 1)) (.tmp 24) (.int .i64 1) v_12) h13) call fun v_14 h15 =>
arb (.val v_14 h15) call fun n_16 h17 =>
arb (.of (bldR [(.int .i64 0), (.int .i64 0), (.int .i64 0)] []) h17) call fun v_18 h19 =>
arb (newR [(.int .i64 0), (.int .i64 0), (.int .i64 0)] h19) call fun count_20 h21 =>
arb (stR 3 h21 count_20 v_18) call fun v_22 h23 =>
arb (.val .nils h23) call fun all_24 h25 =>
lt (sqK (J_precentorlaw16_HoldOrder_0 P call fuel k) k) fun k270 =>
arb (.val (.int .i64 0) h25) call fun i_271 h272 =>
lt (blkK 0 k270) fun k273 =>
(loopN (L_precentorlaw16_HoldOrder_14 P call fuel) fuel (upd (upd (upd (upd (upd (upd (upd (upd (upd (upd (upd (upd (upd (enterT [l_a0, turns_a1]) 4 v_0) 20 v_2) 21 v_4) 22 v_6) 5 f_8) 23 v_10) 24 v_12) 25 v_14) 6 n_16) 26 v_18) 7 count_20) 8 all_24) 9 i_271) h272).bind (lpK k273)
theorem E_precentorlaw16_HoldOrder (call : FuncId → List AVal → Heap → Res AVal) (fuel : Nat) (l_a0 turns_a1 : AVal) (h : Heap) : bodyR Try.prog call fuel Try.f3 [l_a0, turns_a1] h = S_precentorlaw16_HoldOrder Try.prog call fuel l_a0 turns_a1 h := by kernel_rfl
theorem R_precentorlaw16_HoldOrder {X : XTab} (l_a0 turns_a1 : AVal) {h : Heap} {Q : AVal → Heap → Prop} (hx : X F_precentorlaw16_HoldOrder [l_a0, turns_a1] = none) (q : Tells (fun m => S_precentorlaw16_HoldOrder Try.prog (acallX Try.prog X m) m l_a0 turns_a1 h) Q) :
    Tells (fun m => acallX Try.prog X m F_precentorlaw16_HoldOrder [l_a0, turns_a1] h) Q :=
  Tells.later (q.le fun m => (E_precentorlaw16_HoldOrder (acallX Try.prog X m) m l_a0 turns_a1 h) ▸ acallX_le Try.func3 hx m h)

/-! ### precentor/precentorlaw16.HoldKeeps -/
def J_precentorlaw16_HoldKeeps_2 (P : Program) (call : FuncId → List AVal → Heap → Res AVal) (fuel : Nat) (k : Kn (AVal)) (t : T) (h : Heap) : Res (AVal) :=
arb (.val (t 8) h) call fun v_128 h129 =>
arb (.call F_hold_Hold_Next [v_128] h129) call fun v_130 h131 =>
arb (.val v_130 h131) call fun v_132 h133 =>
arb (extR v_132 0 h133) call fun v_134 h135 =>
arb (extR v_132 1 h135) call fun v_136 h137 =>
arb (newR [(.int .i64 0), (.int .i64 0), (.int .i64 0), (.int .i64 0), (.int .i64 0), .nils, .nils] h137) call fun x_138 h139 =>
arb (stR 7 h139 x_138 v_134) call fun v_140 h141 =>
arb (.val v_136 h141) call fun p_142 h143 =>
arb (.val (t 8) h143) call fun v_144 h145 =>
arb (.call F_hold_Hold_Next [v_144] h145) call fun v_146 h147 =>
arb (.val v_146 h147) call fun v_148 h149 =>
arb (extR v_148 0 h149) call fun v_150 h151 =>
arb (extR v_148 1 h151) call fun v_152 h153 =>
arb (newR [(.int .i64 0), (.int .i64 0), (.int .i64 0), (.int .i64 0), (.int .i64 0), .nils, .nils] h153) call fun y_154 h155 =>
arb (stR 7 h155 y_154 v_150) call fun v_156 h157 =>
arb (.val v_152 h157) call fun q_158 h159 =>
arb (.val p_142 h159) call fun v_160 h161 =>
arb (.val v_160 h161) call fun v_162 h163 =>
gd (wantB v_162 true) (fun c => arb (.val q_158 h163) call c) h163 fun v_164 h165 =>
arb (pkR v_162 v_164 (.bool false) h165) call fun v_166 h167 =>
arb (.val v_166 h167) call fun v_168 h169 =>
gd (wantB v_168 true) (fun c => arb (.of (fadR 0 x_138) h169) call c) h169 fun v_170 h171 =>
gd (wantB v_168 true) (fun c => arb (.of (ld1 h171 v_170) h171) call c) h171 fun v_172 h173 =>
gd (wantB v_168 true) (fun c => arb (.of (fadR 0 (t 11)) h173) call c) h173 fun v_174 h175 =>
gd (wantB v_168 true) (fun c => arb (.of (ld1 h175 v_174) h175) call c) h175 fun v_176 h177 =>
gd (wantB v_168 true) (fun c => arb (.of (aBin P .eql 3 (.tmp 103) (.tmp 105) v_172 v_176) h177) call c) h177 fun v_178 h179 =>
arb (pkR v_168 v_178 (.bool false) h179) call fun v_180 h181 =>
arb (.val v_180 h181) call fun v_182 h183 =>
gd (wantB v_182 true) (fun c => arb (.of (ldn 7 h183 y_154) h183) call c) h183 fun v_184 h185 =>
gd (wantB v_182 true) (fun c => arb (.of (ldn 7 h185 (t 7)) h185) call c) h185 fun v_186 h187 =>
gd (wantB v_182 true) (fun c => arb (.call F_precentorref1_SameEvent [v_184, v_186] h187) call c) h187 fun v_188 h189 =>
arb (pkR v_182 v_188 (.bool false) h189) call fun v_190 h191 =>
arb (.val v_190 h191) call fun v_192 h193 =>
k .ret (upd (upd (upd (upd (upd (upd (upd (upd (upd (upd (upd (upd (upd (upd (upd (upd (upd (upd (upd (upd (upd (upd (upd (upd (upd (upd (upd (upd (upd (upd (upd t 88 v_128) 89 v_130) 87 v_132) 90 v_134) 91 v_136) 12 x_138) 13 p_142) 93 v_144) 94 v_146) 92 v_148) 95 v_150) 96 v_152) 14 y_154) 15 q_158) 97 v_160) 98 v_162) 99 v_164) 100 v_166) 101 v_168) 102 v_170) 103 v_172) 104 v_174) 105 v_176) 106 v_178) 107 v_180) 108 v_182) 109 v_184) 110 v_186) 111 v_188) 112 v_190) 4 v_192) h193

def J_precentorlaw16_HoldKeeps_1 (P : Program) (call : FuncId → List AVal → Heap → Res AVal) (fuel : Nat) (k : Kn (AVal)) (t : T) (h : Heap) : Res (AVal) :=
arb (.of (fadR 0 (t 6)) h) call fun v_110 h111 =>
arb (.of (ld1 h111 v_110) h111) call fun v_112 h113 =>
arb (.of (aBin P .rem 3 (.tmp 77) (.const (.int .i64 6)) v_112 (.int .i64 6)) h113) call fun v_114 h115 =>
arb (.of (aBin P .add 3 (.tmp 78) (.const (.int .i64 1)) v_114 (.int .i64 1)) h115) call fun v_116 h117 =>
arb (.of (bldR [(.int .i64 0), (.int .i64 0)] [(0, 1, (.int .i64 3)), (1, 1, (.int .i64 1))]) h117) call fun v_118 h119 =>
arb (bslR 2 [(.int .i64 0), (.int .i64 0)] 1 h119 [(0, 2, v_118)]) call fun v_120 h121 =>
arb (.of (bldR [(.int .i64 0), (.int .i64 0), (.int .i64 0), (.int .i64 0), (.int .i64 0), .nils, .nils] [(0, 1, v_116), (2, 1, (.int .i64 1)), (6, 1, v_120)]) h121) call fun v_122 h123 =>
arb (newR [(.int .i64 0), (.int .i64 0), (.int .i64 0), (.int .i64 0), (.int .i64 0), .nils, .nils] h123) call fun first_124 h125 =>
arb (stR 7 h125 first_124 v_122) call fun v_126 h127 =>
lt (sqK (J_precentorlaw16_HoldKeeps_2 P call fuel k) k) fun k194 =>
arb (.val (t 8) h127) call fun v_195 h196 =>
arb (.of (ldn 7 h196 first_124) h196) call fun v_197 h198 =>
arb (.call F_hold_Hold_Put [v_195, v_197] h198) call fun v_199 h200 =>
arb (.of (aBin P .neq 40 (.tmp 85) (.const (.int .i64 0)) v_199 (.int .i64 0)) h200) call fun v_201 h202 =>
cb v_201 (
arb (.val (.bool false) h202) call fun v_203 h204 =>
k194 .ret (upd (upd (upd (upd (upd (upd (upd (upd (upd (upd (upd (upd (upd t 76 v_110) 77 v_112) 78 v_114) 79 v_116) 80 v_118) 81 v_120) 82 v_122) 11 first_124) 83 v_195) 84 v_197) 85 v_199) 86 v_201) 4 v_203) h204) (
k194 .normal (upd (upd (upd (upd (upd (upd (upd (upd (upd (upd (upd (upd t 76 v_110) 77 v_112) 78 v_114) 79 v_116) 80 v_118) 81 v_120) 82 v_122) 11 first_124) 83 v_195) 84 v_197) 85 v_199) 86 v_201) h202)

def J_precentorlaw16_HoldKeeps_0 (P : Program) (call : FuncId → List AVal → Heap → Res AVal) (fuel : Nat) (k : Kn (AVal)) (t : T) (h : Heap) : Res (AVal) :=
arb (.of (fadR 5 (t 6)) h) call fun v_76 h77 =>
arb (.of (ld1 h77 v_76) h77) call fun v_78 h79 =>
arb (.of (fadR 5 (t 6)) h79) call fun v_80 h81 =>
arb (.of (ld1 h81 v_80) h81) call fun v_82 h83 =>
arb (.of (lenL v_82) h83) call fun v_84 h85 =>
arb (.of (aBin P .sub 3 (.tmp 59) (.const (.int .i64 1)) v_84 (.int .i64 1)) h85) call fun v_86 h87 =>
arb (.val (t 1) h87) call fun v_88 h89 =>
arb (.of (aBin P .add 2 (.tmp 61) (.const (.int .i64 1)) v_88 (.int .i64 1)) h89) call fun v_90 h91 =>
arb (.of (ixsR 6 v_78 v_86) h91) call fun v_92 h93 =>
arb (.of (fadR 1 v_92) h93) call fun v_94 h95 =>
arb (.of (fadR 1 v_94) h95) call fun v_96 h97 =>
arb (stR 1 h97 v_96 v_90) call fun v_98 h99 =>
arb (.of (fadR 6 (t 6)) h99) call fun v_100 h101 =>
arb (.of (ld1 h101 v_100) h101) call fun v_102 h103 =>
arb (.of (ixsR 2 v_102 (.int .i64 0)) h103) call fun v_104 h105 =>
arb (.of (fadR 1 v_104) h105) call fun v_106 h107 =>
arb (stR 1 h107 v_106 (.int .i64 1)) call fun v_108 h109 =>
lt (sqK (J_precentorlaw16_HoldKeeps_1 P call fuel k) k) fun k205 =>
arb (.val (t 8) h109) call fun v_206 h207 =>
arb (.call F_hold_Hold_Next [v_206] h207) call fun v_208 h209 =>
arb (.val v_208 h209) call fun v_210 h211 =>
arb (extR v_210 0 h211) call fun v_212 h213 =>
arb (extR v_210 1 h213) call fun v_214 h215 =>
arb (newR [(.int .i64 0), (.int .i64 0), (.int .i64 0), (.int .i64 0), (.int .i64 0), .nils, .nils] h215) call fun v_216 h217 =>
arb (stR 7 h217 v_216 v_212) call fun v_218 h219 =>
arb (.val v_214 h219) call fun ok_220 h221 =>
arb (.val ok_220 h221) call fun v_222 h223 =>
cb v_222 (
arb (.val (.bool false) h223) call fun v_224 h225 =>
k205 .ret (upd (upd (upd (upd (upd (upd (upd (upd (upd (upd (upd (upd (upd (upd (upd (upd (upd (upd (upd (upd (upd (upd (upd (upd t 55 v_76) 56 v_78) 57 v_80) 58 v_82) 59 v_84) 60 v_86) 61 v_88) 62 v_90) 63 v_92) 64 v_94) 65 v_96) 66 v_100) 67 v_102) 68 v_104) 69 v_106) 71 v_206) 72 v_208) 70 v_210) 73 v_212) 74 v_214) 9 v_216) 10 ok_220) 75 v_222) 4 v_224) h225) (
k205 .normal (upd (upd (upd (upd (upd (upd (upd (upd (upd (upd (upd (upd (upd (upd (upd (upd (upd (upd (upd (upd (upd (upd (upd t 55 v_76) 56 v_78) 57 v_80) 58 v_82) 59 v_84) 60 v_86) 61 v_88) 62 v_90) 63 v_92) 64 v_94) 65 v_96) 66 v_100) 67 v_102) 68 v_104) 69 v_106) 71 v_206) 72 v_208) 70 v_210) 73 v_212) 74 v_214) 9 v_216) 10 ok_220) 75 v_222) h223)

def S_precentorlaw16_HoldKeeps (P : Program) (call : FuncId → List AVal → Heap → Res AVal) (fuel : Nat) (l_a0 n_a1 : AVal) (h : Heap) : Res AVal :=
lt (retK P [.tmp 4]) fun k =>
arb (.val (.bool false) h) call fun v_0 h1 =>
arb (.val l_a0 h1) call fun v_2 h3 =>
arb (.of (bldR [.nils, (.int .i64 0)] [(0, 1, v_2)]) h3) call fun v_4 h5 =>
arb (boxR v_4 h5) call fun v_6 h7 =>
arb (.val v_6 h7) call fun f_8 h9 =>
arb (.val f_8 h9) call fun v_10 h11 =>
arb (.call F_precentorhand_Feed_Event [v_10] h11) call fun v_12 h13 =>
arb (newR [(.int .i64 0), (.int .i64 0), (.int .i64 0), (.int .i64 0), (.int .i64 0), .nils, .nils] h13) call fun e_14 h15 =>
arb (stR 7 h15 e_14 v_12) call fun v_16 h17 =>
arb (.of (bldR [(.int .i64 0), (.int .i64 0)] [(0, 1, (.int .i64 3)), (1, 1, (.int .i64 2))]) h17) call fun v_18 h19 =>
arb (bslR 2 [(.int .i64 0), (.int .i64 0)] 1 h19 [(0, 2, v_18)]) call fun v_20 h21 =>
arb (.of (fadR 6 e_14) h21) call fun v_22 h23 =>
arb (stR 1 h23 v_22 v_20) call fun v_24 h25 =>
arb (.of (fadR 5 e_14) h25) call fun v_26 h27 =>
arb (.of (ld1 h27 v_26) h27) call fun v_28 h29 =>
arb (.val n_a1 h29) call fun v_30 h31 =>
arb (.of (bldR [(.int .i64 0), (.int .i64 0), (.flt .f64 0), (.str (bs [])), (.bool false)] [(0, 1, (.int .i64 1)), (1, 1, v_30)]) h31) call fun v_32 h33 =>
arb (.of (bldR [(.str (bs [])), (.int .i64 0), (.int .i64 0), (.flt .f64 0), (.str (bs [])), (.bool false)] [(0, 1, (.str (bs [122]))), (1, 5, v_32)]) h33) call fun v_34 h35 =>
arb (bslR 6 [(.str (bs [])), (.int .i64 0), (.int .i64 0), (.flt .f64 0), (.str (bs [])), (.bool false)] 1 h35 [(0, 6, v_34)]) call fun v_36 h37 =>
arb (appR 6 64 h37 v_28 v_36) call fun v_38 h39 =>
arb (.of (fadR 5 e_14) h39) call fun v_40 h41 =>
arb (stR 1 h41 v_40 v_38) call fun v_42 h43 =>
arb (.of (ldn 7 h43 e_14) h43) call fun v_44 h45 =>
arb (newR [(.int .i64 0), (.int .i64 0), (.int .i64 0), (.int .i64 0), (.int .i64 0), .nils, .nils] h45) call fun was_46 h47 =>
arb (stR 7 h47 was_46 v_44) call fun v_48 h49 =>
arb (bslR 6 [] 0 h49 []) call fun v_50 h51 =>
arb (.of (fadR 5 e_14) h51) call fun v_52 h53 =>
arb (.of (ld1 h53 v_52) h53) call fun v_54 h55 =>
arb (appR 6 64 h55 v_50 v_54) call fun v_56 h57 =>
arb (.of (fadR 5 was_46) h57) call fun v_58 h59 =>
arb (stR 1 h59 v_58 v_56) call fun v_60 h61 =>
arb (.of (bldR [(.int .i64 0), (.int .i64 0)] [(0, 1, (.int .i64 3)), (1, 1, (.int .i64 2))]) h61) call fun v_62 h63 =>
arb (bslR 2 [(.int .i64 0), (.int .i64 0)] 1 h63 [(0, 2, v_62)]) call fun v_64 h65 =>
arb (.of (fadR 6 was_46) h65) call fun v_66 h67 =>
arb (stR 1 h67 v_66 v_64) call fun v_68 h69 =>
arb (bslR 1 [(.int .i64 0)] 1 h69 [(0, 1, (.int .i64 3))]) call fun v_70 h71 =>
arb (.call F_hold_New [(.int .i64 3), v_70] h71) call fun v_72 h73 =>
arb (.val v_72 h73) call fun h_74 h75 =>
lt (sqK (J_precentorlaw16_HoldKeeps_0 P call fuel k) k) fun k226 =>
arb (.call F_precentorlaw16_known [] h75) call fun v_227 h228 =>
arb (.of (aUn P .not v_227) h228) call fun v_229 h230 =>
arb (.val v_229 h230) call fun v_231 h232 =>
gd (wantB v_231 false) (fun c => arb (.val h_74 h232) call c) h232 fun v_233 h234 =>
gd (wantB v_231 false) (fun c => arb (.of (aBin P .eql 36 (.tmp 46) (.const (.pointer none)) v_233 .nilp) h234) call c) h234 fun v_235 h236 =>
arb (pkR v_231 (.bool true) v_235 h236) call fun v_237 h238 =>
arb (.val v_237 h238) call fun v_239 h240 =>
gd (wantB v_239 false) (fun c => arb (.val h_74 h240) call c) h240 fun v_241 h242 =>
gd (wantB v_239 false) (fun c => arb (.of (ldn 7 h242 e_14) h242) call c) h242 fun v_243 h244 =>
gd (wantB v_239 false) (fun c => arb (.call F_hold_Hold_Put [v_241, v_243] h244) call c) h244 fun v_245 h246 =>
gd (wantB v_239 false) (fun c => arb (.of (aBin P .neq 40 (.tmp 52) (.const (.int .i64 0)) v_245 (.int .i64 0)) h246) call c) h246 fun v_247 h248 =>
arb (pkR v_239 (.bool true) v_247 h248) call fun v_249 h250 =>
cb v_249 (
arb (.val (.bool false) h250) call fun v_251 h252 =>
k226 .ret (upd (upd (upd (upd (upd (upd (upd (upd (upd (upd (upd (upd (upd (upd (upd (upd (upd (upd (upd (upd (upd (upd (upd (upd (upd (upd (upd (upd (upd (upd (upd (upd (upd (upd (upd (upd (upd (upd (upd (upd (upd (upd (upd (upd (upd (enterT [l_a0, n_a1]) 4 v_0) 16 v_2) 17 v_4) 18 v_6) 5 f_8) 19 v_10) 20 v_12) 6 e_14) 21 v_18) 22 v_20) 23 v_22) 24 v_26) 25 v_28) 26 v_30) 27 v_32) 28 v_34) 29 v_36) 30 v_38) 31 v_40) 32 v_44) 7 was_46) 33 v_50) 34 v_52) 35 v_54) 36 v_56) 37 v_58) 38 v_62) 39 v_64) 40 v_66) 41 v_70) 42 v_72) 8 h_74) 43 v_227) 44 v_229) 45 v_231) 46 v_233) 47 v_235) 48 v_237) 49 v_239) 50 v_241) 51 v_243) 52 v_245) 53 v_247) 54 v_249) 4 v_251) h252) (
k226 .normal (upd (upd (upd (upd (upd (upd (upd (upd (upd (upd (upd (upd (upd (upd (upd (upd (upd (upd (upd (upd (upd (upd (upd (upd (upd (upd (upd (upd (upd (upd (upd (upd (upd (upd (upd (upd (upd (upd (upd (upd (upd (upd (upd (upd (enterT [l_a0, n_a1]) 4 v_0) 16 v_2) 17 v_4) 18 v_6) 5 f_8) 19 v_10) 20 v_12) 6 e_14) 21 v_18) 22 v_20) 23 v_22) 24 v_26) 25 v_28) 26 v_30) 27 v_32) 28 v_34) 29 v_36) 30 v_38) 31 v_40) 32 v_44) 7 was_46) 33 v_50) 34 v_52) 35 v_54) 36 v_56) 37 v_58) 38 v_62) 39 v_64) 40 v_66) 41 v_70) 42 v_72) 8 h_74) 43 v_227) 44 v_229) 45 v_231) 46 v_233) 47 v_235) 48 v_237) 49 v_239) 50 v_241) 51 v_243) 52 v_245) 53 v_247) 54 v_249) h250)
theorem E_precentorlaw16_HoldKeeps (call : FuncId → List AVal → Heap → Res AVal) (fuel : Nat) (l_a0 n_a1 : AVal) (h : Heap) : bodyR Try.prog call fuel Try.f4 [l_a0, n_a1] h = S_precentorlaw16_HoldKeeps Try.prog call fuel l_a0 n_a1 h := by kernel_rfl
theorem R_precentorlaw16_HoldKeeps {X : XTab} (l_a0 n_a1 : AVal) {h : Heap} {Q : AVal → Heap → Prop} (hx : X F_precentorlaw16_HoldKeeps [l_a0, n_a1] = none) (q : Tells (fun m => S_precentorlaw16_HoldKeeps Try.prog (acallX Try.prog X m) m l_a0 n_a1 h) Q) :
    Tells (fun m => acallX Try.prog X m F_precentorlaw16_HoldKeeps [l_a0, n_a1] h) Q :=
  Tells.later (q.le fun m => (E_precentorlaw16_HoldKeeps (acallX Try.prog X m) m l_a0 n_a1 h) ▸ acallX_le Try.func4 hx m h)

/-! ### precentor/precentorlaw16.HoldTells -/
def J_precentorlaw16_HoldTells_2 (P : Program) (call : FuncId → List AVal → Heap → Res AVal) (fuel : Nat) (k : Kn (AVal)) (t : T) (h : Heap) : Res (AVal) :=
arb (.val (.bool true) h) call fun v_36 h37 =>
k .ret (upd t 6 v_36) h37

def J_precentorlaw16_HoldTells_5 (P : Program) (call : FuncId → List AVal → Heap → Res AVal) (fuel : Nat) (k : Kn (Ex × T)) (t : T) (h : Heap) : Res (Ex × T) :=
arb (.val (t 12) h) call fun v_42 h43 =>
arb (.of (aBin P .add 3 (.tmp 58) (.const (.int .i64 1)) v_42 (.int .i64 1)) h43) call fun v_44 h45 =>
arb (.val v_44 h45) call fun i_46 h47 =>
k .normal (upd (upd (upd t 58 v_42) 59 v_44) 12 i_46) h47

def J_precentorlaw16_HoldTells_6 (P : Program) (call : FuncId → List AVal → Heap → Res AVal) (fuel : Nat) (k : Kn (Ex × T)) (t : T) (h : Heap) : Res (Ex × T) :=
obv (.val (t 10) h) fun v_50 =>
arbE (.call F_hold_Hold_Len [v_50] h) call fun v_52 h53 => lt h53 fun g53 => ifb (true && true) <|
obv (.val (t 11) g53) fun v_54 =>
obv (nckR v_54 g53) fun v_56 =>
obv (.of (fadR 1 v_56) g53) fun v_58 =>
obv (.of (ld1 g53 v_58) g53) fun v_60 => ifb (isV v_60 (arVal (.of (ld1 h v_58) h)) && true) <|
obv (.of (lenL v_60) g53) fun v_62 =>
obv (.of (aBin P .neq 3 (.tmp 131) (.tmp 136) v_52 v_62) g53) fun v_64 =>
obv (.val v_64 g53) fun v_66 =>
gdr (wantB v_66 false) (fun c => obv (.val (t 10) g53) fun v_68 =>
c true v_68 g53) g53 fun w70 v_68 h70 =>
gdr (wantB v_66 false) (fun c => arbE (.call F_hold_Hold_Clock [v_68] h70) call fun v_71 h72 => lt h72 fun g72 => ifb (true && true) <|
c true v_71 g72) h70 fun w73 v_71 h73 =>
gdr (wantB v_66 false) (fun c => obv (.val (t 11) h73) fun v_74 =>
c true v_74 h73) h73 fun w76 v_74 h76 =>
gdr (wantB v_66 false) (fun c => arbE (.call F_precentorlaw16_sameClock [v_71, v_74] h76) call fun v_77 h78 => lt h78 fun g78 => ifb (true && true) <|
c true v_77 g78) h76 fun w79 v_77 h79 =>
gdr (wantB v_66 false) (fun c => obv (.of (aUn P .not v_77) h79) fun v_80 =>
c true v_80 h79) h79 fun w82 v_80 h82 =>
obv (pkR v_66 (.bool true) v_80 h82) fun v_83 =>
cb v_83 (
arb (.val (.bool false) h82) call fun v_85 h86 =>
k .ret (upd (upd (upd (upd (upd (upd (upd (upd (upd (upd (upd (upd (upd (upd (upd (upd t 130 v_50) 131 v_52) 132 v_54) 133 v_56) 134 v_58) 135 v_60) 136 v_62) 137 v_64) 138 v_66) 139 v_68) 140 v_71) 141 v_74) 142 v_77) 143 v_80) 144 v_83) 6 v_85) h86) (
k .normal (upd (upd (upd (upd (upd (upd (upd (upd (upd (upd (upd (upd (upd (upd (upd t 130 v_50) 131 v_52) 132 v_54) 133 v_56) 134 v_58) 135 v_60) 136 v_62) 137 v_64) 138 v_66) 139 v_68) 140 v_71) 141 v_74) 142 v_77) 143 v_80) 144 v_83) h82)

def J_precentorlaw16_HoldTells_7 (P : Program) (call : FuncId → List AVal → Heap → Res AVal) (fuel : Nat) (k : Kn (Ex × T)) (t : T) (h : Heap) : Res (Ex × T) :=
obv (.val (t 10) h) fun v_122 =>
obv (.of (ldn 7 h (t 13)) h) fun v_124 => ifb true <|
arbE (.call F_hold_Hold_Put [v_122, v_124] h) call fun v_126 h127 => lt h127 fun g127 => ifb (true && true) <|
obv (.val (t 11) g127) fun v_128 =>
obv (.of (ldn 7 g127 (t 13)) g127) fun v_130 => ifb (isV v_130 (arVal (.of (ldn 7 h (t 13)) h)) && true) <|
arbE (.call F_precentorref14_Hold_Put [v_128, v_130] g127) call fun v_132 h133 => lt h133 fun g133 => ifb (true && true) <|
obv (.of (aBin P .neq 40 (.tmp 106) (.tmp 109) v_126 v_132) g133) fun v_134 =>
cb v_134 (
arb (.val (.bool false) g133) call fun v_136 h137 =>
k .ret (upd (upd (upd (upd (upd (upd (upd (upd t 104 v_122) 105 v_124) 106 v_126) 107 v_128) 108 v_130) 109 v_132) 110 v_134) 6 v_136) h137) (
k .normal (upd (upd (upd (upd (upd (upd (upd t 104 v_122) 105 v_124) 106 v_126) 107 v_128) 108 v_130) 109 v_132) 110 v_134) g133)

def J_precentorlaw16_HoldTells_10 (P : Program) (call : FuncId → List AVal → Heap → Res AVal) (fuel : Nat) (k : Kn (Ex × T)) (t : T) (h : Heap) : Res (Ex × T) :=
arb (.val (t 14) h) call fun v_142 h143 =>
arb (.of (aBin P .add 3 (.tmp 78) (.const (.int .i64 1)) v_142 (.int .i64 1)) h143) call fun v_144 h145 =>
arb (.val v_144 h145) call fun k_146 h147 =>
k .normal (upd (upd (upd t 78 v_142) 79 v_144) 14 k_146) h147

def J_precentorlaw16_HoldTells_9 (P : Program) (call : FuncId → List AVal → Heap → Res AVal) (fuel : Nat) (k : Kn (Ex × T)) (t : T) (h : Heap) : Res (Ex × T) :=
lt (sqK (J_precentorlaw16_HoldTells_10 P call fuel k) k) fun k148 =>
lt (blkK 5 k148) fun k149 =>
obv (.val (t 11) h) fun v_150 =>
obv (nckR v_150 h) fun v_152 =>
obv (.of (fadR 2 v_152) h) fun v_154 =>
obv (.of (ldn 2 h v_154) h) fun v_156 => ifb true <|
obv (.of (fadR 6 (t 13)) h) fun v_158 =>
obv (.of (ld1 h v_158) h) fun v_160 => ifb true <|
obv (.val (t 14) h) fun v_162 =>
obv (.of (ixsR 2 v_160 v_162) h) fun v_164 =>
obv (.of (fadR 0 v_164) h) fun v_166 =>
obv (.of (ld1 h v_166) h) fun v_168 => ifb true <|
arbE (.call F_precentorref9_Clock_Next [v_156, v_168] h) call fun v_170 h171 => lt h171 fun g171 => ifb (true && true) <|
obv (.val v_170 g171) fun n_172 =>
arb (.val n_172 g171) call fun v_174 h175 =>
arb (.of (aBin P .gtr 3 (.tmp 91) (.const (.int .i64 0)) v_174 (.int .i64 0)) h175) call fun v_176 h177 =>
arb (.val v_176 h177) call fun v_178 h179 =>
gd (wantB v_178 true) (fun c => arb (.val (t 7) h179) call c) h179 fun v_180 h181 =>
gd (wantB v_178 true) (fun c => arb (.call F_precentorhand_Feed_Next [v_180, (.int .i64 3)] h181) call c) h181 fun v_182 h183 =>
gd (wantB v_178 true) (fun c => arb (.of (aBin P .gtr 3 (.tmp 95) (.const (.int .i64 0)) v_182 (.int .i64 0)) h183) call c) h183 fun v_184 h185 =>
arb (pkR v_178 v_184 (.bool false) h185) call fun v_186 h187 =>
cb v_186 (
arb (.of (fadR 6 (t 13)) h187) call fun v_188 h189 =>
arb (.of (ld1 h189 v_188) h189) call fun v_190 h191 =>
arb (.val (t 14) h191) call fun v_192 h193 =>
arb (.val n_172 h193) call fun v_194 h195 =>
arb (.of (ixsR 2 v_190 v_192) h195) call fun v_196 h197 =>
arb (.of (fadR 1 v_196) h197) call fun v_198 h199 =>
arb (stR 1 h199 v_198 v_194) call fun v_200 h201 =>
k149 .normal (upd (upd (upd (upd (upd (upd (upd (upd (upd (upd (upd (upd (upd (upd (upd (upd (upd (upd (upd (upd (upd (upd (upd (upd (upd t 80 v_150) 81 v_152) 82 v_154) 83 v_156) 84 v_158) 85 v_160) 86 v_162) 87 v_164) 88 v_166) 89 v_168) 90 v_170) 15 n_172) 91 v_174) 92 v_176) 93 v_178) 94 v_180) 95 v_182) 96 v_184) 97 v_186) 98 v_188) 99 v_190) 100 v_192) 101 v_194) 102 v_196) 103 v_198) h201) (
k149 .normal (upd (upd (upd (upd (upd (upd (upd (upd (upd (upd (upd (upd (upd (upd (upd (upd (upd (upd (upd t 80 v_150) 81 v_152) 82 v_154) 83 v_156) 84 v_158) 85 v_160) 86 v_162) 87 v_164) 88 v_166) 89 v_168) 90 v_170) 15 n_172) 91 v_174) 92 v_176) 93 v_178) 94 v_180) 95 v_182) 96 v_184) 97 v_186) h187)

def L_precentorlaw16_HoldTells_8 (P : Program) (call : FuncId → List AVal → Heap → Res AVal) (fuel : Nat) (t : T) (h : Heap) : Res (Ex × T) :=
lt okK fun k =>
lt (sqK (J_precentorlaw16_HoldTells_9 P call fuel k) k) fun k202 =>
arb (.val (t 14) h) call fun v_203 h204 =>
arb (.of (fadR 6 (t 13)) h204) call fun v_205 h206 =>
arb (.of (ld1 h206 v_205) h206) call fun v_207 h208 =>
arb (.of (lenL v_207) h208) call fun v_209 h210 =>
arb (.of (aBin P .lss 3 (.tmp 73) (.tmp 76) v_203 v_209) h210) call fun v_211 h212 =>
cb v_211 (
k202 .normal (upd (upd (upd (upd (upd t 73 v_203) 74 v_205) 75 v_207) 76 v_209) 77 v_211) h212) (
k202 (.exit 4) (upd (upd (upd (upd (upd t 73 v_203) 74 v_205) 75 v_207) 76 v_209) 77 v_211) h212)

def J_precentorlaw16_HoldTells_4 (P : Program) (call : FuncId → List AVal → Heap → Res AVal) (fuel : Nat) (k : Kn (Ex × T)) (t : T) (h : Heap) : Res (Ex × T) :=
lt (sqK (J_precentorlaw16_HoldTells_5 P call fuel k) k) fun k48 =>
lt (blkK 3 k48) fun k49 =>
lt (sqK (J_precentorlaw16_HoldTells_6 P call fuel k49) k49) fun k87 =>
arb (.val (t 7) h) call fun v_88 h89 =>
arb (.call F_precentorhand_Feed_Next [v_88, (.int .i64 3)] h89) call fun v_90 h91 =>
arb (.of (aBin P .gtr 3 (.tmp 61) (.const (.int .i64 0)) v_90 (.int .i64 0)) h91) call fun v_92 h93 =>
cb v_92 (
arb (.val (t 7) h93) call fun v_94 h95 =>
arb (.call F_precentorhand_Feed_Event [v_94] h95) call fun v_96 h97 =>
arb (newR [(.int .i64 0), (.int .i64 0), (.int .i64 0), (.int .i64 0), (.int .i64 0), .nils, .nils] h97) call fun e_98 h99 =>
arb (stR 7 h99 e_98 v_96) call fun v_100 h101 =>
arb (.val (t 7) h101) call fun v_102 h103 =>
arb (.call F_precentorhand_Feed_Next [v_102, (.int .i64 2)] h103) call fun v_104 h105 =>
arb (.of (aBin P .add 3 (.const (.int .i64 1)) (.tmp 66) (.int .i64 1) v_104) h105) call fun v_106 h107 =>
arb (.val (t 7) h107) call fun v_108 h109 =>
arb (.call F_precentorhand_Feed_Next [v_108, (.int .i64 5)] h109) call fun v_110 h111 =>
arb (.of (aBin P .add 3 (.const (.int .i64 1)) (.tmp 69) (.int .i64 1) v_110) h111) call fun v_112 h113 =>
arb (.of (fadR 0 e_98) h113) call fun v_114 h115 =>
arb (stR 1 h115 v_114 v_106) call fun v_116 h117 =>
arb (.of (fadR 2 e_98) h117) call fun v_118 h119 =>
arb (stR 1 h119 v_118 v_112) call fun v_120 h121 =>
lt (sqK (J_precentorlaw16_HoldTells_7 P call fuel k87) k87) fun k138 =>
arb (.val (.int .i64 0) h121) call fun k_139 h140 =>
lt (blkK 4 k138) fun k141 =>
(loopN (L_precentorlaw16_HoldTells_8 P call fuel) fuel (upd (upd (upd (upd (upd (upd (upd (upd (upd (upd (upd (upd (upd (upd (upd t 60 v_88) 61 v_90) 62 v_92) 63 v_94) 64 v_96) 13 e_98) 65 v_102) 66 v_104) 67 v_106) 68 v_108) 69 v_110) 70 v_112) 71 v_114) 72 v_118) 14 k_139) h140).bind (lpK k141)) (
arb (.val (t 10) h93) call fun v_213 h214 =>
arb (.call F_hold_Hold_Next [v_213] h214) call fun v_215 h216 =>
arb (.val v_215 h216) call fun v_217 h218 =>
arb (extR v_217 0 h218) call fun v_219 h220 =>
arb (extR v_217 1 h220) call fun v_221 h222 =>
arb (newR [(.int .i64 0), (.int .i64 0), (.int .i64 0), (.int .i64 0), (.int .i64 0), .nils, .nils] h222) call fun x_223 h224 =>
arb (stR 7 h224 x_223 v_219) call fun v_225 h226 =>
arb (.val v_221 h226) call fun a_227 h228 =>
arb (.val (t 11) h228) call fun v_229 h230 =>
arb (.call F_precentorref14_Hold_Next [v_229] h230) call fun v_231 h232 =>
arb (.val v_231 h232) call fun v_233 h234 =>
arb (extR v_233 0 h234) call fun v_235 h236 =>
arb (extR v_233 1 h236) call fun v_237 h238 =>
arb (newR [(.int .i64 0), (.int .i64 0), (.int .i64 0), (.int .i64 0), (.int .i64 0), .nils, .nils] h238) call fun y_239 h240 =>
arb (stR 7 h240 y_239 v_235) call fun v_241 h242 =>
arb (.val v_237 h242) call fun b_243 h244 =>
arb (.val a_227 h244) call fun v_245 h246 =>
arb (.val b_243 h246) call fun v_247 h248 =>
arb (.of (aBin P .neq 4 (.tmp 121) (.tmp 122) v_245 v_247) h248) call fun v_249 h250 =>
arb (.val v_249 h250) call fun v_251 h252 =>
gd (wantB v_251 false) (fun c => arb (.of (ldn 7 h252 x_223) h252) call c) h252 fun v_253 h254 =>
gd (wantB v_251 false) (fun c => arb (.of (ldn 7 h254 y_239) h254) call c) h254 fun v_255 h256 =>
gd (wantB v_251 false) (fun c => arb (.call F_precentorref1_SameEvent [v_253, v_255] h256) call c) h256 fun v_257 h258 =>
gd (wantB v_251 false) (fun c => arb (.of (aUn P .not v_257) h258) call c) h258 fun v_259 h260 =>
arb (pkR v_251 (.bool true) v_259 h260) call fun v_261 h262 =>
cb v_261 (
arb (.val (.bool false) h262) call fun v_263 h264 =>
k87 .ret (upd (upd (upd (upd (upd (upd (upd (upd (upd (upd (upd (upd (upd (upd (upd (upd (upd (upd (upd (upd (upd (upd (upd (upd (upd (upd (upd t 60 v_88) 61 v_90) 62 v_92) 112 v_213) 113 v_215) 111 v_217) 114 v_219) 115 v_221) 16 x_223) 17 a_227) 117 v_229) 118 v_231) 116 v_233) 119 v_235) 120 v_237) 18 y_239) 19 b_243) 121 v_245) 122 v_247) 123 v_249) 124 v_251) 125 v_253) 126 v_255) 127 v_257) 128 v_259) 129 v_261) 6 v_263) h264) (
k87 .normal (upd (upd (upd (upd (upd (upd (upd (upd (upd (upd (upd (upd (upd (upd (upd (upd (upd (upd (upd (upd (upd (upd (upd (upd (upd (upd t 60 v_88) 61 v_90) 62 v_92) 112 v_213) 113 v_215) 111 v_217) 114 v_219) 115 v_221) 16 x_223) 17 a_227) 117 v_229) 118 v_231) 116 v_233) 119 v_235) 120 v_237) 18 y_239) 19 b_243) 121 v_245) 122 v_247) 123 v_249) 124 v_251) 125 v_253) 126 v_255) 127 v_257) 128 v_259) 129 v_261) h262))

def L_precentorlaw16_HoldTells_3 (P : Program) (call : FuncId → List AVal → Heap → Res AVal) (fuel : Nat) (t : T) (h : Heap) : Res (Ex × T) :=
lt okK fun k =>
lt (sqK (J_precentorlaw16_HoldTells_4 P call fuel k) k) fun k265 =>
arb (.val (t 12) h) call fun v_266 h267 =>
arb (.of (aBin P .lss 3 (.tmp 56) (.const (.int .i64 24)) v_266 (.int .i64 24)) h267) call fun v_268 h269 =>
cb v_268 (
k265 .normal (upd (upd t 56 v_266) 57 v_268) h269) (
k265 (.exit 2) (upd (upd t 56 v_266) 57 v_268) h269)

def J_precentorlaw16_HoldTells_1 (P : Program) (call : FuncId → List AVal → Heap → Res AVal) (fuel : Nat) (k : Kn (AVal)) (t : T) (h : Heap) : Res (AVal) :=
lt (sqK (J_precentorlaw16_HoldTells_2 P call fuel k) k) fun k38 =>
arb (.val (.int .i64 0) h) call fun i_39 h40 =>
lt (blkK 2 k38) fun k41 =>
(loopN (L_precentorlaw16_HoldTells_3 P call fuel) fuel (upd t 12 i_39) h40).bind (lpK k41)

def J_precentorlaw16_HoldTells_0 (P : Program) (call : FuncId → List AVal → Heap → Res AVal) (fuel : Nat) (k : Kn (AVal)) (t : T) (h : Heap) : Res (AVal) :=
arb (.val (t 2) h) call fun v_12 h13 =>
arb (.call F_precentorhand_Pick [v_12, (.int .i64 8)] h13) call fun v_14 h15 =>
arb (.of (aBin P .sub 3 (.tmp 42) (.const (.int .i64 1)) v_14 (.int .i64 1)) h15) call fun v_16 h17 =>
arb (.val v_16 h17) call fun most_18 h19 =>
arb (.val most_18 h19) call fun v_20 h21 =>
arb (.val (t 8) h21) call fun v_22 h23 =>
arb (.call F_hold_New [v_20, v_22] h23) call fun v_24 h25 =>
arb (.val v_24 h25) call fun h_26 h27 =>
arb (.val most_18 h27) call fun v_28 h29 =>
arb (.val (t 8) h29) call fun v_30 h31 =>
arb (.call F_precentorref14_NewHold [v_28, v_30] h31) call fun v_32 h33 =>
arb (.val v_32 h33) call fun r_34 h35 =>
lt (sqK (J_precentorlaw16_HoldTells_1 P call fuel k) k) fun k270 =>
arb (.call F_precentorlaw16_known [] h35) call fun v_271 h272 =>
arb (.of (aUn P .not v_271) h272) call fun v_273 h274 =>
arb (.val v_273 h274) call fun v_275 h276 =>
gd (wantB v_275 false) (fun c => arb (.val h_26 h276) call c) h276 fun v_277 h278 =>
gd (wantB v_275 false) (fun c => arb (.of (aBin P .eql 36 (.tmp 53) (.const (.pointer none)) v_277 .nilp) h278) call c) h278 fun v_279 h280 =>
arb (pkR v_275 (.bool true) v_279 h280) call fun v_281 h282 =>
cb v_281 (
arb (.val (.bool false) h282) call fun v_283 h284 =>
k270 .ret (upd (upd (upd (upd (upd (upd (upd (upd (upd (upd (upd (upd (upd (upd (upd (upd (upd (upd (upd t 41 v_12) 42 v_14) 43 v_16) 2 most_18) 44 v_20) 45 v_22) 46 v_24) 10 h_26) 47 v_28) 48 v_30) 49 v_32) 11 r_34) 50 v_271) 51 v_273) 52 v_275) 53 v_277) 54 v_279) 55 v_281) 6 v_283) h284) (
k270 .normal (upd (upd (upd (upd (upd (upd (upd (upd (upd (upd (upd (upd (upd (upd (upd (upd (upd (upd t 41 v_12) 42 v_14) 43 v_16) 2 most_18) 44 v_20) 45 v_22) 46 v_24) 10 h_26) 47 v_28) 48 v_30) 49 v_32) 11 r_34) 50 v_271) 51 v_273) 52 v_275) 53 v_277) 54 v_279) 55 v_281) h282)

def J_precentorlaw16_HoldTells_13 (P : Program) (call : FuncId → List AVal → Heap → Res AVal) (fuel : Nat) (k : Kn (Ex × T)) (t : T) (h : Heap) : Res (Ex × T) :=
arb (.val (t 9) h) call fun v_289 h290 =>
arb (.of (aBin P .add 3 (.tmp 31) (.const (.int .i64 1)) v_289 (.int .i64 1)) h290) call fun v_291 h292 =>
arb (.val v_291 h292) call fun i_293 h294 =>
k .normal (upd (upd (upd t 31 v_289) 32 v_291) 9 i_293) h294

def J_precentorlaw16_HoldTells_12 (P : Program) (call : FuncId → List AVal → Heap → Res AVal) (fuel : Nat) (k : Kn (Ex × T)) (t : T) (h : Heap) : Res (Ex × T) :=
lt (sqK (J_precentorlaw16_HoldTells_13 P call fuel k) k) fun k295 =>
lt (blkK 1 k295) fun k296 =>
arb (.val (t 8) h) call fun v_297 h298 =>
arb (.val (t 1) h298) call fun v_299 h300 =>
arb (.val (t 9) h300) call fun v_301 h302 =>
arb (.of (ixsR 1 v_299 v_301) h302) call fun v_303 h304 =>
arb (.of (ld1 h304 v_303) h304) call fun v_305 h306 =>
arb (.call F_precentorhand_Pick [v_305, (.int .i64 6)] h306) call fun v_307 h308 =>
arb (bslR 1 [(.int .i64 0)] 1 h308 [(0, 1, v_307)]) call fun v_309 h310 =>
arb (appR 1 8 h310 v_297 v_309) call fun v_311 h312 =>
arb (.val v_311 h312) call fun q_313 h314 =>
k296 .normal (upd (upd (upd (upd (upd (upd (upd (upd (upd t 33 v_297) 34 v_299) 35 v_301) 36 v_303) 37 v_305) 38 v_307) 39 v_309) 40 v_311) 8 q_313) h314

def L_precentorlaw16_HoldTells_11 (P : Program) (call : FuncId → List AVal → Heap → Res AVal) (fuel : Nat) (t : T) (h : Heap) : Res (Ex × T) :=
lt okK fun k =>
lt (sqK (J_precentorlaw16_HoldTells_12 P call fuel k) k) fun k315 =>
arb (.val (t 9) h) call fun v_316 h317 =>
arb (.val (t 1) h317) call fun v_318 h319 =>
arb (.of (lenL v_318) h319) call fun v_320 h321 =>
arb (.of (aBin P .lss 3 (.tmp 23) (.tmp 25) v_316 v_320) h321) call fun v_322 h323 =>
arb (.val v_322 h323) call fun v_324 h325 =>
gd (wantB v_324 true) (fun c => arb (.val (t 9) h325) call c) h325 fun v_326 h327 =>
gd (wantB v_324 true) (fun c => arb (.of (aBin P .lss 3 (.tmp 28) (.const (.int .i64 4)) v_326 (.int .i64 4)) h327) call c) h327 fun v_328 h329 =>
arb (pkR v_324 v_328 (.bool false) h329) call fun v_330 h331 =>
cb v_330 (
k315 .normal (upd (upd (upd (upd (upd (upd (upd (upd t 23 v_316) 24 v_318) 25 v_320) 26 v_322) 27 v_324) 28 v_326) 29 v_328) 30 v_330) h331) (
k315 (.exit 0) (upd (upd (upd (upd (upd (upd (upd (upd t 23 v_316) 24 v_318) 25 v_320) 26 v_322) 27 v_324) 28 v_326) 29 v_328) 30 v_330) h331)

def S_precentorlaw16_HoldTells (P : Program) (call : FuncId → List AVal → Heap → Res AVal) (fuel : Nat) (l_a0 own_a1 most_a2 : AVal) (h : Heap) : Res AVal :=
lt (retK P [.tmp 6]) fun k =>
arb (.val (.bool false) h) call fun v_0 h1 =>
arb (.val l_a0 h1) call fun v_2 h3 =>
arb (.of (bldR [.nils, (.int .i64 0)] [(0, 1, v_2)]) h3) call fun v_4 h5 =>
arb (boxR v_4 h5) call fun v_6 h7 =>
arb (.val v_6 h7) call fun f_8 h9 =>
arb (.val .nils h9) call fun q_10 h11 =>
lt (sqK (J_precentorlaw16_HoldTells_0 P call fuel k) k) fun k285 =>
arb (.val (.int .i64 0) h11) call fun i_286 h287 =>
lt (blkK 0 k285) fun k288 =>
(loopN (L_precentorlaw16_HoldTells_11 P call fuel) fuel (upd (upd (upd (upd (upd (upd (upd (enterT [l_a0, own_a1, most_a2]) 6 v_0) 20 v_2) 21 v_4) 22 v_6) 7 f_8) 8 q_10) 9 i_286) h287).bind (lpK k288)
theorem E_precentorlaw16_HoldTells (call : FuncId → List AVal → Heap → Res AVal) (fuel : Nat) (l_a0 own_a1 most_a2 : AVal) (h : Heap) : bodyR Try.prog call fuel Try.f5 [l_a0, own_a1, most_a2] h = S_precentorlaw16_HoldTells Try.prog call fuel l_a0 own_a1 most_a2 h := by kernel_rfl
theorem R_precentorlaw16_HoldTells {X : XTab} (l_a0 own_a1 most_a2 : AVal) {h : Heap} {Q : AVal → Heap → Prop} (hx : X F_precentorlaw16_HoldTells [l_a0, own_a1, most_a2] = none) (q : Tells (fun m => S_precentorlaw16_HoldTells Try.prog (acallX Try.prog X m) m l_a0 own_a1 most_a2 h) Q) :
    Tells (fun m => acallX Try.prog X m F_precentorlaw16_HoldTells [l_a0, own_a1, most_a2] h) Q :=
  Tells.later (q.le fun m => (E_precentorlaw16_HoldTells (acallX Try.prog X m) m l_a0 own_a1 most_a2 h) ▸ acallX_le Try.func5 hx m h)

/-! ### precentor/precentorlaw16.known -/

def S_precentorlaw16_known (P : Program) (call : FuncId → List AVal → Heap → Res AVal) (fuel : Nat) (h : Heap) : Res AVal :=
lt (retK P [.tmp 0]) fun k =>
arb (.val (.bool false) h) call fun v_0 h1 =>
arb (.call F_precentorlaw16_HoldKnown [] h1) call fun v_2 h3 =>
arb (.val v_2 h3) call fun v_4 h5 =>
k .ret (upd (upd (upd (enterT []) 0 v_0) 1 v_2) 0 v_4) h5
theorem E_precentorlaw16_known (call : FuncId → List AVal → Heap → Res AVal) (fuel : Nat) (h : Heap) : bodyR Try.prog call fuel Try.f9 [] h = S_precentorlaw16_known Try.prog call fuel  h := by kernel_rfl
theorem R_precentorlaw16_known {X : XTab} {h : Heap} {Q : AVal → Heap → Prop} (hx : X F_precentorlaw16_known [] = none) (q : Tells (fun m => S_precentorlaw16_known Try.prog (acallX Try.prog X m) m  h) Q) :
    Tells (fun m => acallX Try.prog X m F_precentorlaw16_known [] h) Q :=
  Tells.later (q.le fun m => (E_precentorlaw16_known (acallX Try.prog X m) m  h) ▸ acallX_le Try.func9 hx m h)

/-! ### precentor/precentorlaw16.sameClock -/
def J_precentorlaw16_sameClock_1 (P : Program) (call : FuncId → List AVal → Heap → Res AVal) (fuel : Nat) (k : Kn (AVal)) (t : T) (h : Heap) : Res (AVal) :=
arb (.val (.bool true) h) call fun v_10 h11 =>
k .ret (upd t 4 v_10) h11

def J_precentorlaw16_sameClock_4 (P : Program) (call : FuncId → List AVal → Heap → Res AVal) (fuel : Nat) (k : Kn (Ex × T)) (t : T) (h : Heap) : Res (Ex × T) :=
arb (.val (t 6) h) call fun v_16 h17 =>
arb (.of (aBin P .add 3 (.tmp 22) (.const (.int .i64 1)) v_16 (.int .i64 1)) h17) call fun v_18 h19 =>
arb (.val v_18 h19) call fun i_20 h21 =>
k .normal (upd (upd (upd t 22 v_16) 23 v_18) 6 i_20) h21

def J_precentorlaw16_sameClock_3 (P : Program) (call : FuncId → List AVal → Heap → Res AVal) (fuel : Nat) (k : Kn (Ex × T)) (t : T) (h : Heap) : Res (Ex × T) :=
lt (sqK (J_precentorlaw16_sameClock_4 P call fuel k) k) fun k22 =>
lt (blkK 1 k22) fun k23 =>
obv (.val (t 5) h) fun v_24 =>
obv (.val (t 6) h) fun v_26 =>
obv (.of (ixsR 1 v_24 v_26) h) fun v_28 =>
obv (.of (ld1 h v_28) h) fun v_30 => ifb true <|
obv (.val (t 1) h) fun v_32 =>
obv (nckR v_32 h) fun v_34 =>
obv (.of (fadR 2 v_34) h) fun v_36 =>
obv (.of (fadR 0 v_36) h) fun v_38 =>
obv (.of (ld1 h v_38) h) fun v_40 => ifb true <|
obv (.val (t 6) h) fun v_42 =>
obv (.of (ixsR 1 v_40 v_42) h) fun v_44 =>
obv (.of (ld1 h v_44) h) fun v_46 => ifb true <|
obv (.of (aBin P .neq 3 (.tmp 27) (.tmp 35) v_30 v_46) h) fun v_48 =>
obv (.val v_48 h) fun v_50 =>
gdr (wantB v_50 false) (fun c => obv (.of (ldn 1 h (t 2)) h) fun v_52 => ifb true <|
c true v_52 h) h fun w54 v_52 h54 =>
gdr (wantB v_50 false) (fun c => obv (.val (t 5) h54) fun v_55 =>
c true v_55 h54) h54 fun w57 v_55 h57 =>
gdr (wantB v_50 false) (fun c => obv (.val (t 6) h57) fun v_58 =>
c true v_58 h57) h57 fun w60 v_58 h60 =>
gdr (wantB v_50 false) (fun c => obv (.of (ixsR 1 v_55 v_58) h60) fun v_61 =>
c true v_61 h60) h60 fun w63 v_61 h63 =>
gdr (wantB v_50 false) (fun c => obv (.of (ld1 h63 v_61) h63) fun v_64 => ifb true <|
c true v_64 h63) h63 fun w66 v_64 h66 =>
gdr (wantB v_50 false) (fun c => arbE (.call F_clock_Clock_Next [v_52, v_64] h66) call fun v_67 h68 => lt h68 fun g68 => ifb (true && true) <|
c true v_67 g68) h66 fun w69 v_67 h69 =>
gdr (wantB v_50 false) (fun c => obv (.val (t 1) h69) fun v_70 =>
c true v_70 h69) h69 fun w72 v_70 h72 =>
gdr (wantB v_50 false) (fun c => obv (nckR v_70 h72) fun v_73 =>
c true v_73 h72) h72 fun w75 v_73 h75 =>
gdr (wantB v_50 false) (fun c => obv (.of (fadR 2 v_73) h75) fun v_76 =>
c true v_76 h75) h75 fun w78 v_76 h78 =>
gdr (wantB v_50 false) (fun c => obv (.of (fadR 1 v_76) h78) fun v_79 =>
c true v_79 h78) h78 fun w81 v_79 h81 =>
gdr (wantB v_50 false) (fun c => obv (.of (ld1 h81 v_79) h81) fun v_82 => ifb ((!w69 || isV v_82 (arVal (.of (ld1 h66 v_79) h66))) && true) <|
c true v_82 h81) h81 fun w84 v_82 h84 =>
gdr (wantB v_50 false) (fun c => obv (.val (t 6) h84) fun v_85 =>
c true v_85 h84) h84 fun w87 v_85 h87 =>
gdr (wantB v_50 false) (fun c => obv (.of (ixsR 1 v_82 v_85) h87) fun v_88 =>
c true v_88 h87) h87 fun w90 v_88 h90 =>
gdr (wantB v_50 false) (fun c => obv (.of (ld1 h90 v_88) h90) fun v_91 => ifb ((!w69 || isV v_91 (arVal (.of (ld1 h66 v_88) h66))) && true) <|
c true v_91 h90) h90 fun w93 v_91 h93 =>
gdr (wantB v_50 false) (fun c => obv (.of (aBin P .neq 3 (.tmp 43) (.tmp 51) v_67 v_91) h93) fun v_94 =>
c true v_94 h93) h93 fun w96 v_94 h96 =>
obv (pkR v_50 (.bool true) v_94 h96) fun v_97 =>
cb v_97 (
arb (.val (.bool false) h96) call fun v_99 h100 =>
k23 .ret (upd (upd (upd (upd (upd (upd (upd (upd (upd (upd (upd (upd (upd (upd (upd (upd (upd (upd (upd (upd (upd (upd (upd (upd (upd (upd (upd (upd (upd (upd (upd t 24 v_24) 25 v_26) 26 v_28) 27 v_30) 28 v_32) 29 v_34) 30 v_36) 31 v_38) 32 v_40) 33 v_42) 34 v_44) 35 v_46) 36 v_48) 37 v_50) 38 v_52) 39 v_55) 40 v_58) 41 v_61) 42 v_64) 43 v_67) 44 v_70) 45 v_73) 46 v_76) 47 v_79) 48 v_82) 49 v_85) 50 v_88) 51 v_91) 52 v_94) 53 v_97) 4 v_99) h100) (
k23 .normal (upd (upd (upd (upd (upd (upd (upd (upd (upd (upd (upd (upd (upd (upd (upd (upd (upd (upd (upd (upd (upd (upd (upd (upd (upd (upd (upd (upd (upd (upd t 24 v_24) 25 v_26) 26 v_28) 27 v_30) 28 v_32) 29 v_34) 30 v_36) 31 v_38) 32 v_40) 33 v_42) 34 v_44) 35 v_46) 36 v_48) 37 v_50) 38 v_52) 39 v_55) 40 v_58) 41 v_61) 42 v_64) 43 v_67) 44 v_70) 45 v_73) 46 v_76) 47 v_79) 48 v_82) 49 v_85) 50 v_88) 51 v_91) 52 v_94) 53 v_97) h96)

def L_precentorlaw16_sameClock_2 (P : Program) (call : FuncId → List AVal → Heap → Res AVal) (fuel : Nat) (t : T) (h : Heap) : Res (Ex × T) :=
lt okK fun k =>
lt (sqK (J_precentorlaw16_sameClock_3 P call fuel k) k) fun k101 =>
arb (.val (t 6) h) call fun v_102 h103 =>
arb (.val (t 5) h103) call fun v_104 h105 =>
arb (.of (lenL v_104) h105) call fun v_106 h107 =>
arb (.of (aBin P .lss 3 (.tmp 18) (.tmp 20) v_102 v_106) h107) call fun v_108 h109 =>
cb v_108 (
k101 .normal (upd (upd (upd (upd t 18 v_102) 19 v_104) 20 v_106) 21 v_108) h109) (
k101 (.exit 0) (upd (upd (upd (upd t 18 v_102) 19 v_104) 20 v_106) 21 v_108) h109)

def J_precentorlaw16_sameClock_0 (P : Program) (call : FuncId → List AVal → Heap → Res AVal) (fuel : Nat) (k : Kn (AVal)) (t : T) (h : Heap) : Res (AVal) :=
lt (sqK (J_precentorlaw16_sameClock_1 P call fuel k) k) fun k12 =>
arb (.val (.int .i64 0) h) call fun i_13 h14 =>
lt (blkK 0 k12) fun k15 =>
(loopN (L_precentorlaw16_sameClock_2 P call fuel) fuel (upd t 6 i_13) h14).bind (lpK k15)

def S_precentorlaw16_sameClock (P : Program) (call : FuncId → List AVal → Heap → Res AVal) (fuel : Nat) (a_a0 b_a1 : AVal) (h : Heap) : Res AVal :=
lt (retK P [.tmp 4]) fun k =>
arb (boxR a_a0 h) call fun a_0 h1 =>
arb (.val (.bool false) h1) call fun v_2 h3 =>
arb (.of (ldn 1 h3 a_0) h3) call fun v_4 h5 =>
arb (.call F_clock_Clock_Own [v_4] h5) call fun v_6 h7 =>
arb (.val v_6 h7) call fun o_8 h9 =>
lt (sqK (J_precentorlaw16_sameClock_0 P call fuel k) k) fun k110 =>
arb (.val o_8 h9) call fun v_111 h112 =>
arb (.of (lenL v_111) h112) call fun v_113 h114 =>
arb (.val b_a1 h114) call fun v_115 h116 =>
arb (nckR v_115 h116) call fun v_117 h118 =>
arb (.of (fadR 2 v_117) h118) call fun v_119 h120 =>
arb (.of (fadR 0 v_119) h120) call fun v_121 h122 =>
arb (.of (ld1 h122 v_121) h122) call fun v_123 h124 =>
arb (.of (lenL v_123) h124) call fun v_125 h126 =>
arb (.of (aBin P .neq 3 (.tmp 10) (.tmp 16) v_113 v_125) h126) call fun v_127 h128 =>
cb v_127 (
arb (.val (.bool false) h128) call fun v_129 h130 =>
k110 .ret (upd (upd (upd (upd (upd (upd (upd (upd (upd (upd (upd (upd (upd (upd (upd (enterT [a_a0, b_a1]) 2 a_0) 4 v_2) 7 v_4) 8 v_6) 5 o_8) 9 v_111) 10 v_113) 11 v_115) 12 v_117) 13 v_119) 14 v_121) 15 v_123) 16 v_125) 17 v_127) 4 v_129) h130) (
k110 .normal (upd (upd (upd (upd (upd (upd (upd (upd (upd (upd (upd (upd (upd (upd (enterT [a_a0, b_a1]) 2 a_0) 4 v_2) 7 v_4) 8 v_6) 5 o_8) 9 v_111) 10 v_113) 11 v_115) 12 v_117) 13 v_119) 14 v_121) 15 v_123) 16 v_125) 17 v_127) h128)
theorem E_precentorlaw16_sameClock (call : FuncId → List AVal → Heap → Res AVal) (fuel : Nat) (a_a0 b_a1 : AVal) (h : Heap) : bodyR Try.prog call fuel Try.f19 [a_a0, b_a1] h = S_precentorlaw16_sameClock Try.prog call fuel a_a0 b_a1 h := by kernel_rfl
theorem R_precentorlaw16_sameClock {X : XTab} (a_a0 b_a1 : AVal) {h : Heap} {Q : AVal → Heap → Prop} (hx : X F_precentorlaw16_sameClock [a_a0, b_a1] = none) (q : Tells (fun m => S_precentorlaw16_sameClock Try.prog (acallX Try.prog X m) m a_a0 b_a1 h) Q) :
    Tells (fun m => acallX Try.prog X m F_precentorlaw16_sameClock [a_a0, b_a1] h) Q :=
  Tells.later (q.le fun m => (E_precentorlaw16_sameClock (acallX Try.prog X m) m a_a0 b_a1 h) ▸ acallX_le Try.func19 hx m h)

/-! ### precentor/precentorlaw16.event -/

theorem C_precentorlaw16_event_0 (h : Heap) (a : AVal) : aLoad Try.prog h 32 a = ldn 7 h a := by kernel_rfl
def S_precentorlaw16_event (P : Program) (call : FuncId → List AVal → Heap → Res AVal) (fuel : Nat) (seq_a0 n_a1 : AVal) (h : Heap) : Res AVal :=
lt (retK P [.cell 4 32]) fun k =>
arb (newR [(.int .i64 0), (.int .i64 0), (.int .i64 0), (.int .i64 0), (.int .i64 0), .nils, .nils] h) call fun v_0 h1 =>
arb (.val seq_a0 h1) call fun v_2 h3 =>
arb (.val n_a1 h3) call fun v_4 h5 =>
arb (.of (bldR [(.int .i64 0), (.int .i64 0)] [(0, 1, (.int .i64 0)), (1, 1, v_4)]) h5) call fun v_6 h7 =>
arb (bslR 2 [(.int .i64 0), (.int .i64 0)] 1 h7 [(0, 2, v_6)]) call fun v_8 h9 =>
arb (.of (bldR [(.int .i64 0), (.int .i64 0), (.int .i64 0), (.int .i64 0), (.int .i64 0), .nils, .nils] [(0, 1, (.int .i64 1)), (2, 1, v_2), (6, 1, v_8)]) h9) call fun v_10 h11 =>
arb (stR 7 h11 v_0 v_10) call fun v_12 h13 =>
k .ret (upd (upd (upd (upd (upd (upd (enterT [seq_a0, n_a1]) 4 v_0) 5 v_2) 6 v_4) 7 v_6) 8 v_8) 9 v_10) h13
theorem E_precentorlaw16_event (call : FuncId → List AVal → Heap → Res AVal) (fuel : Nat) (seq_a0 n_a1 : AVal) (h : Heap) : bodyR Try.prog call fuel Try.f34 [seq_a0, n_a1] h = S_precentorlaw16_event Try.prog call fuel seq_a0 n_a1 h := by kernel_rfl
theorem R_precentorlaw16_event {X : XTab} (seq_a0 n_a1 : AVal) {h : Heap} {Q : AVal → Heap → Prop} (hx : X F_precentorlaw16_event [seq_a0, n_a1] = none) (q : Tells (fun m => S_precentorlaw16_event Try.prog (acallX Try.prog X m) m seq_a0 n_a1 h) Q) :
    Tells (fun m => acallX Try.prog X m F_precentorlaw16_event [seq_a0, n_a1] h) Q :=
  Tells.later (q.le fun m => (E_precentorlaw16_event (acallX Try.prog X m) m seq_a0 n_a1 h) ▸ acallX_le Try.func34 hx m h)


end Go.Proofs.Ytbpbdigehfkjjaa
