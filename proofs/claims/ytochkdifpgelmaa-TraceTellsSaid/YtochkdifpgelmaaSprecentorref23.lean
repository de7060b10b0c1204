/-
  Functions of precentorref23 in the form of YtochkdifpgelmaaABS (printed by a program of ours, gen.lean).
-/
import Derived.Test.YtochkdifpgelmaaSIds
set_option linter.unusedVariables false
namespace Go.Proofs.Ytochkdifpgelmaa
open Go.Ab
/-! ### precentor/precentorref23.Line -/
def J_precentorref23_Line_1 (P : Program) (call : FuncId → List AVal → Heap → Res AVal) (fuel : Nat) (k : Kn (AVal)) (t : T) (h : Heap) : Res (AVal) :=
arb (.val (t 5) h) call fun v_16 h17 =>
arb (.val v_16 h17) call fun v_18 h19 =>
arb (.val (.bool true) h19) call fun v_20 h21 =>
k .ret (upd (upd (upd t 120 v_16) 2 v_18) 3 v_20) h21

def J_precentorref23_Line_5 (P : Program) (call : FuncId → List AVal → Heap → Res AVal) (fuel : Nat) (k : Kn (Ex × T)) (t : T) (h : Heap) : Res (Ex × T) :=
arb (.val (t 5) h) call fun v_27 h28 =>
arb (.val (t 4) h28) call fun v_29 h30 =>
arb (.val (t 10) h30) call fun v_31 h32 =>
arb (.of (ixsR 2 v_29 v_31) h32) call fun v_33 h34 =>
arb (.of (ldn 2 h34 v_33) h34) call fun v_35 h36 =>
arb (bslR 2 [(.int .i64 0), (.int .i64 0)] 1 h36 [(0, 2, v_35)]) call fun v_37 h38 =>
arb (appR 2 16 h38 v_27 v_37) call fun v_39 h40 =>
arb (.val v_39 h40) call fun out_41 h42 =>
k .normal (upd (upd (upd (upd (upd (upd (upd (upd t 113 v_27) 114 v_29) 115 v_31) 116 v_33) 117 v_35) 118 v_37) 119 v_39) 5 out_41) h42

def J_precentorref23_Line_4 (P : Program) (call : FuncId → List AVal → Heap → Res AVal) (fuel : Nat) (k : Kn (Ex × T)) (t : T) (h : Heap) : Res (Ex × T) :=
lt (sqK (J_precentorref23_Line_5 P call fuel k) k) fun k43 =>
arb (.val (t 10) h) call fun v_44 h45 =>
arb (.of (aBin P .lss 3 (.tmp 111) (.const (.int .i64 0)) v_44 (.int .i64 0)) h45) call fun v_46 h47 =>
cb v_46 (
arb (.val .nils h47) call fun v_48 h49 =>
arb (.val (.bool false) h49) call fun v_50 h51 =>
k43 .ret (upd (upd (upd (upd t 111 v_44) 112 v_46) 2 v_48) 3 v_50) h51) (
k43 .normal (upd (upd t 111 v_44) 112 v_46) h47)

def J_precentorref23_Line_8 (P : Program) (call : FuncId → List AVal → Heap → Res AVal) (fuel : Nat) (k : Kn (Ex × T)) (t : T) (h : Heap) : Res (Ex × T) :=
arb (.val (t 11) h) call fun v_56 h57 =>
arb (.of (aBin P .add 3 (.tmp 64) (.const (.int .i64 1)) v_56 (.int .i64 1)) h57) call fun v_58 h59 =>
arb (.val v_58 h59) call fun x_60 h61 =>
k .normal (upd (upd (upd t 64 v_56) 65 v_58) 11 x_60) h61

def J_precentorref23_Line_9 (P : Program) (call : FuncId → List AVal → Heap → Res AVal) (fuel : Nat) (k : Kn (Ex × T)) (t : T) (h : Heap) : Res (Ex × T) :=
arb (.val (t 12) h) call fun v_80 h81 =>
cb v_80 (
arb (.val (t 11) h81) call fun v_82 h83 =>
arb (.val v_82 h83) call fun next_84 h85 =>
k .normal (upd (upd (upd t 109 v_80) 110 v_82) 10 next_84) h85) (
k .normal (upd t 109 v_80) h81)

def J_precentorref23_Line_12 (P : Program) (call : FuncId → List AVal → Heap → Res AVal) (fuel : Nat) (k : Kn (Ex × T)) (t : T) (h : Heap) : Res (Ex × T) :=
arb (.val (t 13) h) call fun v_90 h91 =>
arb (.of (aBin P .add 3 (.tmp 80) (.const (.int .i64 1)) v_90 (.int .i64 1)) h91) call fun v_92 h93 =>
arb (.val v_92 h93) call fun i_94 h95 =>
k .normal (upd (upd (upd t 80 v_90) 81 v_92) 13 i_94) h95

def J_precentorref23_Line_15 (P : Program) (call : FuncId → List AVal → Heap → Res AVal) (fuel : Nat) (k : Kn (Ex × T)) (t : T) (h : Heap) : Res (Ex × T) :=
arb (.val (t 15) h) call fun v_121 h122 =>
arb (.of (aBin P .add 3 (.tmp 97) (.const (.int .i64 1)) v_121 (.int .i64 1)) h122) call fun v_123 h124 =>
arb (.val v_123 h124) call fun k_125 h126 =>
k .normal (upd (upd (upd t 97 v_121) 98 v_123) 15 k_125) h126

def J_precentorref23_Line_14 (P : Program) (call : FuncId → List AVal → Heap → Res AVal) (fuel : Nat) (k : Kn (Ex × T)) (t : T) (h : Heap) : Res (Ex × T) :=
lt (sqK (J_precentorref23_Line_15 P call fuel k) k) fun k127 =>
lt (blkK 11 k127) fun k128 =>
arb (.val (t 5) h) call fun v_129 h130 =>
arb (.val (t 6) h130) call fun v_131 h132 =>
arb (.val (t 13) h132) call fun v_133 h134 =>
arb (.of (ixsR 1 v_131 v_133) h134) call fun v_135 h136 =>
arb (.of (ld1 h136 v_135) h136) call fun v_137 h138 =>
arb (.val (t 15) h138) call fun v_139 h140 =>
arb (.of (ixsR 2 v_137 v_139) h140) call fun v_141 h142 =>
arb (.of (ldn 2 h142 v_141) h142) call fun v_143 h144 =>
arb (.call F_precentorref23_at [v_129, v_143] h144) call fun v_145 h146 =>
arb (.of (aBin P .geq 3 (.tmp 107) (.const (.int .i64 0)) v_145 (.int .i64 0)) h146) call fun v_147 h148 =>
arb (.val v_147 h148) call fun free_149 h150 =>
k128 .normal (upd (upd (upd (upd (upd (upd (upd (upd (upd (upd (upd t 99 v_129) 100 v_131) 101 v_133) 102 v_135) 103 v_137) 104 v_139) 105 v_141) 106 v_143) 107 v_145) 108 v_147) 12 free_149) h150

def L_precentorref23_Line_13 (P : Program) (call : FuncId → List AVal → Heap → Res AVal) (fuel : Nat) (t : T) (h : Heap) : Res (Ex × T) :=
lt okK fun k =>
lt (sqK (J_precentorref23_Line_14 P call fuel k) k) fun k151 =>
arb (.val (t 15) h) call fun v_152 h153 =>
arb (.val (t 14) h153) call fun v_154 h155 =>
arb (.of (aBin P .lss 3 (.tmp 91) (.tmp 92) v_152 v_154) h155) call fun v_156 h157 =>
arb (.val v_156 h157) call fun v_158 h159 =>
gd (wantB v_158 true) (fun c => arb (.val (t 12) h159) call c) h159 fun v_160 h161 =>
arb (pkR v_158 v_160 (.bool false) h161) call fun v_162 h163 =>
cb v_162 (
k151 .normal (upd (upd (upd (upd (upd (upd t 91 v_152) 92 v_154) 93 v_156) 94 v_158) 95 v_160) 96 v_162) h163) (
k151 (.exit 10) (upd (upd (upd (upd (upd (upd t 91 v_152) 92 v_154) 93 v_156) 94 v_158) 95 v_160) 96 v_162) h163)

def J_precentorref23_Line_11 (P : Program) (call : FuncId → List AVal → Heap → Res AVal) (fuel : Nat) (k : Kn (Ex × T)) (t : T) (h : Heap) : Res (Ex × T) :=
lt (sqK (J_precentorref23_Line_12 P call fuel k) k) fun k96 =>
lt (blkK 9 k96) fun k97 =>
obv (.val (t 6) h) fun v_98 =>
obv (.val (t 13) h) fun v_100 =>
obv (.of (ixsR 1 v_98 v_100) h) fun v_102 =>
obv (.of (ld1 h v_102) h) fun v_104 => ifb true <|
obv (.val (t 4) h) fun v_106 =>
obv (.val (t 11) h) fun v_108 =>
obv (.of (ixsR 2 v_106 v_108) h) fun v_110 =>
obv (.of (ldn 2 h v_110) h) fun v_112 => ifb true <|
arbE (.call F_precentorref23_at [v_104, v_112] h) call fun v_114 h115 => lt h115 fun g115 => ifb (true && true) <|
obv (.val v_114 g115) fun n_116 =>
arb (.val (.int .i64 0) g115) call fun k_118 h119 =>
lt (blkK 10 k97) fun k120 =>
(loopN (L_precentorref23_Line_13 P call fuel) fuel (upd (upd (upd (upd (upd (upd (upd (upd (upd (upd (upd t 82 v_98) 83 v_100) 84 v_102) 85 v_104) 86 v_106) 87 v_108) 88 v_110) 89 v_112) 90 v_114) 14 n_116) 15 k_118) h119).bind (lpK k120)

def L_precentorref23_Line_10 (P : Program) (call : FuncId → List AVal → Heap → Res AVal) (fuel : Nat) (t : T) (h : Heap) : Res (Ex × T) :=
lt okK fun k =>
lt (sqK (J_precentorref23_Line_11 P call fuel k) k) fun k164 =>
arb (.val (t 13) h) call fun v_165 h166 =>
arb (.val (t 6) h166) call fun v_167 h168 =>
arb (.of (lenL v_167) h168) call fun v_169 h170 =>
arb (.of (aBin P .lss 3 (.tmp 73) (.tmp 75) v_165 v_169) h170) call fun v_171 h172 =>
arb (.val v_171 h172) call fun v_173 h174 =>
gd (wantB v_173 true) (fun c => arb (.val (t 12) h174) call c) h174 fun v_175 h176 =>
arb (pkR v_173 v_175 (.bool false) h176) call fun v_177 h178 =>
cb v_177 (
k164 .normal (upd (upd (upd (upd (upd (upd (upd t 73 v_165) 74 v_167) 75 v_169) 76 v_171) 77 v_173) 78 v_175) 79 v_177) h178) (
k164 (.exit 8) (upd (upd (upd (upd (upd (upd (upd t 73 v_165) 74 v_167) 75 v_169) 76 v_171) 77 v_173) 78 v_175) 79 v_177) h178)

def J_precentorref23_Line_7 (P : Program) (call : FuncId → List AVal → Heap → Res AVal) (fuel : Nat) (k : Kn (Ex × T)) (t : T) (h : Heap) : Res (Ex × T) :=
lt (sqK (J_precentorref23_Line_8 P call fuel k) k) fun k62 =>
lt (blkK 7 k62) fun k63 =>
arb (.val (t 5) h) call fun v_64 h65 =>
arb (.val (t 4) h65) call fun v_66 h67 =>
arb (.val (t 11) h67) call fun v_68 h69 =>
arb (.of (ixsR 2 v_66 v_68) h69) call fun v_70 h71 =>
arb (.of (ldn 2 h71 v_70) h71) call fun v_72 h73 =>
arb (.call F_precentorref23_at [v_64, v_72] h73) call fun v_74 h75 =>
arb (.of (aBin P .lss 3 (.tmp 71) (.const (.int .i64 0)) v_74 (.int .i64 0)) h75) call fun v_76 h77 =>
arb (.val v_76 h77) call fun free_78 h79 =>
lt (sqK (J_precentorref23_Line_9 P call fuel k63) k63) fun k86 =>
arb (.val (.int .i64 0) h79) call fun i_87 h88 =>
lt (blkK 8 k86) fun k89 =>
(loopN (L_precentorref23_Line_10 P call fuel) fuel (upd (upd (upd (upd (upd (upd (upd (upd (upd t 66 v_64) 67 v_66) 68 v_68) 69 v_70) 70 v_72) 71 v_74) 72 v_76) 12 free_78) 13 i_87) h88).bind (lpK k89)

def L_precentorref23_Line_6 (P : Program) (call : FuncId → List AVal → Heap → Res AVal) (fuel : Nat) (t : T) (h : Heap) : Res (Ex × T) :=
lt okK fun k =>
lt (sqK (J_precentorref23_Line_7 P call fuel k) k) fun k179 =>
arb (.val (t 11) h) call fun v_180 h181 =>
arb (.val (t 4) h181) call fun v_182 h183 =>
arb (.of (lenL v_182) h183) call fun v_184 h185 =>
arb (.of (aBin P .lss 3 (.tmp 56) (.tmp 58) v_180 v_184) h185) call fun v_186 h187 =>
arb (.val v_186 h187) call fun v_188 h189 =>
gd (wantB v_188 true) (fun c => arb (.val (t 10) h189) call c) h189 fun v_190 h191 =>
gd (wantB v_188 true) (fun c => arb (.of (aBin P .lss 3 (.tmp 61) (.const (.int .i64 0)) v_190 (.int .i64 0)) h191) call c) h191 fun v_192 h193 =>
arb (pkR v_188 v_192 (.bool false) h193) call fun v_194 h195 =>
cb v_194 (
k179 .normal (upd (upd (upd (upd (upd (upd (upd (upd t 56 v_180) 57 v_182) 58 v_184) 59 v_186) 60 v_188) 61 v_190) 62 v_192) 63 v_194) h195) (
k179 (.exit 6) (upd (upd (upd (upd (upd (upd (upd (upd t 56 v_180) 57 v_182) 58 v_184) 59 v_186) 60 v_188) 61 v_190) 62 v_192) 63 v_194) h195)

def J_precentorref23_Line_3 (P : Program) (call : FuncId → List AVal → Heap → Res AVal) (fuel : Nat) (k : Kn (Ex × T)) (t : T) (h : Heap) : Res (Ex × T) :=
lt (blkK 5 k) fun k24 =>
arb (.val (.int .i64 (-1)) h) call fun next_25 h26 =>
lt (sqK (J_precentorref23_Line_4 P call fuel k24) k24) fun k52 =>
arb (.val (.int .i64 0) h26) call fun x_53 h54 =>
lt (blkK 6 k52) fun k55 =>
(loopN (L_precentorref23_Line_6 P call fuel) fuel (upd (upd t 10 next_25) 11 x_53) h54).bind (lpK k55)

def L_precentorref23_Line_2 (P : Program) (call : FuncId → List AVal → Heap → Res AVal) (fuel : Nat) (t : T) (h : Heap) : Res (Ex × T) :=
lt okK fun k =>
lt (sqK (J_precentorref23_Line_3 P call fuel k) k) fun k196 =>
arb (.val (t 5) h) call fun v_197 h198 =>
arb (.of (lenL v_197) h198) call fun v_199 h200 =>
arb (.val (t 4) h200) call fun v_201 h202 =>
arb (.of (lenL v_201) h202) call fun v_203 h204 =>
arb (.of (aBin P .lss 3 (.tmp 52) (.tmp 54) v_199 v_203) h204) call fun v_205 h206 =>
cb v_205 (
k196 .normal (upd (upd (upd (upd (upd t 51 v_197) 52 v_199) 53 v_201) 54 v_203) 55 v_205) h206) (
k196 (.exit 4) (upd (upd (upd (upd (upd t 51 v_197) 52 v_199) 53 v_201) 54 v_203) 55 v_205) h206)

def J_precentorref23_Line_0 (P : Program) (call : FuncId → List AVal → Heap → Res AVal) (fuel : Nat) (k : Kn (AVal)) (t : T) (h : Heap) : Res (AVal) :=
lt (sqK (J_precentorref23_Line_1 P call fuel k) k) fun k22 =>
lt (blkK 4 k22) fun k23 =>
(loopN (L_precentorref23_Line_2 P call fuel) fuel t h).bind (lpK k23)

def J_precentorref23_Line_18 (P : Program) (call : FuncId → List AVal → Heap → Res AVal) (fuel : Nat) (k : Kn (Ex × T)) (t : T) (h : Heap) : Res (Ex × T) :=
arb (.val (t 8) h) call fun v_211 h212 =>
arb (.of (aBin P .add 3 (.tmp 22) (.const (.int .i64 1)) v_211 (.int .i64 1)) h212) call fun v_213 h214 =>
arb (.val v_213 h214) call fun i_215 h216 =>
k .normal (upd (upd (upd t 22 v_211) 23 v_213) 8 i_215) h216

def J_precentorref23_Line_21 (P : Program) (call : FuncId → List AVal → Heap → Res AVal) (fuel : Nat) (k : Kn (Ex × T)) (t : T) (h : Heap) : Res (Ex × T) :=
arb (.val (t 9) h) call fun v_242 h243 =>
arb (.of (aBin P .add 3 (.tmp 40) (.const (.int .i64 1)) v_242 (.int .i64 1)) h243) call fun v_244 h245 =>
arb (.val v_244 h245) call fun k_246 h247 =>
k .normal (upd (upd (upd t 40 v_242) 41 v_244) 9 k_246) h247

def J_precentorref23_Line_20 (P : Program) (call : FuncId → List AVal → Heap → Res AVal) (fuel : Nat) (k : Kn (Ex × T)) (t : T) (h : Heap) : Res (Ex × T) :=
lt (sqK (J_precentorref23_Line_21 P call fuel k) k) fun k248 =>
lt (blkK 3 k248) fun k249 =>
arb (.val (t 4) h) call fun v_250 h251 =>
arb (.val (t 6) h251) call fun v_252 h253 =>
arb (.val (t 8) h253) call fun v_254 h255 =>
arb (.of (ixsR 1 v_252 v_254) h255) call fun v_256 h257 =>
arb (.of (ld1 h257 v_256) h257) call fun v_258 h259 =>
arb (.val (t 9) h259) call fun v_260 h261 =>
arb (.of (ixsR 2 v_258 v_260) h261) call fun v_262 h263 =>
arb (.of (ldn 2 h263 v_262) h263) call fun v_264 h265 =>
arb (.call F_precentorref23_put [v_250, v_264] h265) call fun v_266 h267 =>
arb (.val v_266 h267) call fun all_268 h269 =>
k249 .normal (upd (upd (upd (upd (upd (upd (upd (upd (upd (upd t 42 v_250) 43 v_252) 44 v_254) 45 v_256) 46 v_258) 47 v_260) 48 v_262) 49 v_264) 50 v_266) 4 all_268) h269

def L_precentorref23_Line_19 (P : Program) (call : FuncId → List AVal → Heap → Res AVal) (fuel : Nat) (t : T) (h : Heap) : Res (Ex × T) :=
lt okK fun k =>
lt (sqK (J_precentorref23_Line_20 P call fuel k) k) fun k270 =>
arb (.val (t 9) h) call fun v_271 h272 =>
arb (.val (t 6) h272) call fun v_273 h274 =>
arb (.val (t 8) h274) call fun v_275 h276 =>
arb (.of (ixsR 1 v_273 v_275) h276) call fun v_277 h278 =>
arb (.of (ld1 h278 v_277) h278) call fun v_279 h280 =>
arb (.of (lenL v_279) h280) call fun v_281 h282 =>
arb (.of (aBin P .lss 3 (.tmp 33) (.tmp 38) v_271 v_281) h282) call fun v_283 h284 =>
cb v_283 (
k270 .normal (upd (upd (upd (upd (upd (upd (upd t 33 v_271) 34 v_273) 35 v_275) 36 v_277) 37 v_279) 38 v_281) 39 v_283) h284) (
k270 (.exit 2) (upd (upd (upd (upd (upd (upd (upd t 33 v_271) 34 v_273) 35 v_275) 36 v_277) 37 v_279) 38 v_281) 39 v_283) h284)

def J_precentorref23_Line_17 (P : Program) (call : FuncId → List AVal → Heap → Res AVal) (fuel : Nat) (k : Kn (Ex × T)) (t : T) (h : Heap) : Res (Ex × T) :=
lt (sqK (J_precentorref23_Line_18 P call fuel k) k) fun k217 =>
lt (blkK 1 k217) fun k218 =>
arb (.val (t 6) h) call fun v_219 h220 =>
arb (.val (t 0) h220) call fun v_221 h222 =>
arb (.val (t 7) h222) call fun v_223 h224 =>
arb (.val (t 8) h224) call fun v_225 h226 =>
arb (.of (ixsR 1 v_223 v_225) h226) call fun v_227 h228 =>
arb (.of (ld1 h228 v_227) h228) call fun v_229 h230 =>
arb (.call F_precentorref23_first [v_221, v_229] h230) call fun v_231 h232 =>
arb (bslR 1 [.nils] 1 h232 [(0, 1, v_231)]) call fun v_233 h234 =>
arb (appR 1 24 h234 v_219 v_233) call fun v_235 h236 =>
arb (.val v_235 h236) call fun logs_237 h238 =>
arb (.val (.int .i64 0) h238) call fun k_239 h240 =>
lt (blkK 2 k218) fun k241 =>
(loopN (L_precentorref23_Line_19 P call fuel) fuel (upd (upd (upd (upd (upd (upd (upd (upd (upd (upd (upd t 24 v_219) 25 v_221) 26 v_223) 27 v_225) 28 v_227) 29 v_229) 30 v_231) 31 v_233) 32 v_235) 6 logs_237) 9 k_239) h240).bind (lpK k241)

def L_precentorref23_Line_16 (P : Program) (call : FuncId → List AVal → Heap → Res AVal) (fuel : Nat) (t : T) (h : Heap) : Res (Ex × T) :=
lt okK fun k =>
lt (sqK (J_precentorref23_Line_17 P call fuel k) k) fun k285 =>
arb (.val (t 8) h) call fun v_286 h287 =>
arb (.val (t 7) h287) call fun v_288 h289 =>
arb (.of (lenL v_288) h289) call fun v_290 h291 =>
arb (.of (aBin P .lss 3 (.tmp 18) (.tmp 20) v_286 v_290) h291) call fun v_292 h293 =>
cb v_292 (
k285 .normal (upd (upd (upd (upd t 18 v_286) 19 v_288) 20 v_290) 21 v_292) h293) (
k285 (.exit 0) (upd (upd (upd (upd t 18 v_286) 19 v_288) 20 v_290) 21 v_292) h293)

def S_precentorref23_Line (P : Program) (call : FuncId → List AVal → Heap → Res AVal) (fuel : Nat) (l_a0 : AVal) (h : Heap) : Res AVal :=
lt (retK P [.tmp 2, .tmp 3]) fun k =>
arb (.val .nils h) call fun v_0 h1 =>
arb (.val (.bool false) h1) call fun v_2 h3 =>
arb (.val .nils h3) call fun all_4 h5 =>
arb (.val .nils h5) call fun out_6 h7 =>
arb (.val .nils h7) call fun logs_8 h9 =>
arb (.val l_a0 h9) call fun v_10 h11 =>
arb (.call F_precentorref23_clients [v_10] h11) call fun v_12 h13 =>
arb (.val v_12 h13) call fun who_14 h15 =>
lt (sqK (J_precentorref23_Line_0 P call fuel k) k) fun k207 =>
arb (.val (.int .i64 0) h15) call fun i_208 h209 =>
lt (blkK 0 k207) fun k210 =>
(loopN (L_precentorref23_Line_16 P call fuel) fuel (upd (upd (upd (upd (upd (upd (upd (upd (upd (enterT [l_a0]) 2 v_0) 3 v_2) 4 all_4) 5 out_6) 6 logs_8) 16 v_10) 17 v_12) 7 who_14) 8 i_208) h209).bind (lpK k210)
theorem E_precentorref23_Line (call : FuncId → List AVal → Heap → Res AVal) (fuel : Nat) (l_a0 : AVal) (h : Heap) : bodyR Try.prog call fuel Try.f18 [l_a0] h = S_precentorref23_Line Try.prog call fuel l_a0 h := by kernel_rfl
theorem R_precentorref23_Line {X : XTab} (l_a0 : AVal) {h : Heap} {Q : AVal → Heap → Prop} (hx : X F_precentorref23_Line [l_a0] = none) (q : Tells (fun m => S_precentorref23_Line Try.prog (acallX Try.prog X m) m l_a0 h) Q) :
    Tells (fun m => acallX Try.prog X m F_precentorref23_Line [l_a0] h) Q :=
  Tells.later (q.le fun m => (E_precentorref23_Line (acallX Try.prog X m) m l_a0 h) ▸ acallX_le Try.func18 hx m h)

/-! ### precentor/precentorref23.Heard -/
def J_precentorref23_Heard_0 (P : Program) (call : FuncId → List AVal → Heap → Res AVal) (fuel : Nat) (k : Kn (AVal)) (t : T) (h : Heap) : Res (AVal) :=
arb (.val (t 5) h) call fun v_4 h5 =>
arb (.val v_4 h5) call fun v_6 h7 =>
k .ret (upd (upd t 36 v_4) 4 v_6) h7

def J_precentorref23_Heard_3 (P : Program) (call : FuncId → List AVal → Heap → Res AVal) (fuel : Nat) (k : Kn (Ex × T)) (t : T) (h : Heap) : Res (Ex × T) :=
arb (.val (t 6) h) call fun v_12 h13 =>
arb (.of (aBin P .add 3 (.tmp 11) (.const (.int .i64 1)) v_12 (.int .i64 1)) h13) call fun v_14 h15 =>
arb (.val v_14 h15) call fun i_16 h17 =>
k .normal (upd (upd (upd t 11 v_12) 12 v_14) 6 i_16) h17

def J_precentorref23_Heard_2 (P : Program) (call : FuncId → List AVal → Heap → Res AVal) (fuel : Nat) (k : Kn (Ex × T)) (t : T) (h : Heap) : Res (Ex × T) :=
lt (sqK (J_precentorref23_Heard_3 P call fuel k) k) fun k18 =>
lt (blkK 1 k18) fun k19 =>
arb (.val (t 0) h) call fun v_20 h21 =>
arb (.val (t 6) h21) call fun v_22 h23 =>
arb (.of (ixsR 4 v_20 v_22) h23) call fun v_24 h25 =>
arb (.of (fadR 0 v_24) h25) call fun v_26 h27 =>
arb (.of (ld1 h27 v_26) h27) call fun v_28 h29 =>
arb (.of (aUn P .not v_28) h29) call fun v_30 h31 =>
arb (.val v_30 h31) call fun v_32 h33 =>
gd (wantB v_32 true) (fun c => arb (.val (t 0) h33) call c) h33 fun v_34 h35 =>
gd (wantB v_32 true) (fun c => arb (.val (t 6) h35) call c) h35 fun v_36 h37 =>
gd (wantB v_32 true) (fun c => arb (.of (ixsR 4 v_34 v_36) h37) call c) h37 fun v_38 h39 =>
gd (wantB v_32 true) (fun c => arb (.of (fadR 1 v_38) h39) call c) h39 fun v_40 h41 =>
gd (wantB v_32 true) (fun c => arb (.of (ld1 h41 v_40) h41) call c) h41 fun v_42 h43 =>
gd (wantB v_32 true) (fun c => arb (.val (t 1) h43) call c) h43 fun v_44 h45 =>
gd (wantB v_32 true) (fun c => arb (.of (aBin P .eql 3 (.tmp 24) (.tmp 25) v_42 v_44) h45) call c) h45 fun v_46 h47 =>
arb (pkR v_32 v_46 (.bool false) h47) call fun v_48 h49 =>
cb v_48 (
arb (.val (t 5) h49) call fun v_50 h51 =>
arb (.val (t 0) h51) call fun v_52 h53 =>
arb (.val (t 6) h53) call fun v_54 h55 =>
arb (.of (ixsR 4 v_52 v_54) h55) call fun v_56 h57 =>
arb (.of (ldn 4 h57 v_56) h57) call fun v_58 h59 =>
arb (.call F_precentorref23_id [v_58] h59) call fun v_60 h61 =>
arb (bslR 2 [(.int .i64 0), (.int .i64 0)] 1 h61 [(0, 2, v_60)]) call fun v_62 h63 =>
arb (appR 2 16 h63 v_50 v_62) call fun v_64 h65 =>
arb (.val v_64 h65) call fun out_66 h67 =>
k19 .normal (upd (upd (upd (upd (upd (upd (upd (upd (upd (upd (upd (upd (upd (upd (upd (upd (upd (upd (upd (upd (upd (upd (upd (upd t 13 v_20) 14 v_22) 15 v_24) 16 v_26) 17 v_28) 18 v_30) 19 v_32) 20 v_34) 21 v_36) 22 v_38) 23 v_40) 24 v_42) 25 v_44) 26 v_46) 27 v_48) 28 v_50) 29 v_52) 30 v_54) 31 v_56) 32 v_58) 33 v_60) 34 v_62) 35 v_64) 5 out_66) h67) (
k19 .normal (upd (upd (upd (upd (upd (upd (upd (upd (upd (upd (upd (upd (upd (upd (upd t 13 v_20) 14 v_22) 15 v_24) 16 v_26) 17 v_28) 18 v_30) 19 v_32) 20 v_34) 21 v_36) 22 v_38) 23 v_40) 24 v_42) 25 v_44) 26 v_46) 27 v_48) h49)

def L_precentorref23_Heard_1 (P : Program) (call : FuncId → List AVal → Heap → Res AVal) (fuel : Nat) (t : T) (h : Heap) : Res (Ex × T) :=
lt okK fun k =>
lt (sqK (J_precentorref23_Heard_2 P call fuel k) k) fun k68 =>
arb (.val (t 6) h) call fun v_69 h70 =>
arb (.val (t 0) h70) call fun v_71 h72 =>
arb (.of (lenL v_71) h72) call fun v_73 h74 =>
arb (.of (aBin P .lss 3 (.tmp 7) (.tmp 9) v_69 v_73) h74) call fun v_75 h76 =>
cb v_75 (
k68 .normal (upd (upd (upd (upd t 7 v_69) 8 v_71) 9 v_73) 10 v_75) h76) (
k68 (.exit 0) (upd (upd (upd (upd t 7 v_69) 8 v_71) 9 v_73) 10 v_75) h76)

def S_precentorref23_Heard (P : Program) (call : FuncId → List AVal → Heap → Res AVal) (fuel : Nat) (l_a0 client_a1 : AVal) (h : Heap) : Res AVal :=
lt (retK P [.tmp 4]) fun k =>
arb (.val .nils h) call fun v_0 h1 =>
arb (.val .nils h1) call fun out_2 h3 =>
lt (sqK (J_precentorref23_Heard_0 P call fuel k) k) fun k8 =>
arb (.val (.int .i64 0) h3) call fun i_9 h10 =>
lt (blkK 0 k8) fun k11 =>
(loopN (L_precentorref23_Heard_1 P call fuel) fuel (upd (upd (upd (enterT [l_a0, client_a1]) 4 v_0) 5 out_2) 6 i_9) h10).bind (lpK k11)
theorem E_precentorref23_Heard (call : FuncId → List AVal → Heap → Res AVal) (fuel : Nat) (l_a0 client_a1 : AVal) (h : Heap) : bodyR Try.prog call fuel Try.f21 [l_a0, client_a1] h = S_precentorref23_Heard Try.prog call fuel l_a0 client_a1 h := by kernel_rfl
theorem R_precentorref23_Heard {X : XTab} (l_a0 client_a1 : AVal) {h : Heap} {Q : AVal → Heap → Prop} (hx : X F_precentorref23_Heard [l_a0, client_a1] = none) (q : Tells (fun m => S_precentorref23_Heard Try.prog (acallX Try.prog X m) m l_a0 client_a1 h) Q) :
    Tells (fun m => acallX Try.prog X m F_precentorref23_Heard [l_a0, client_a1] h) Q :=
  Tells.later (q.le fun m => (E_precentorref23_Heard (acallX Try.prog X m) m l_a0 client_a1 h) ▸ acallX_le Try.func21 hx m h)

/-! ### precentor/precentorref23.Once -/
def J_precentorref23_Once_0 (P : Program) (call : FuncId → List AVal → Heap → Res AVal) (fuel : Nat) (k : Kn (AVal)) (t : T) (h : Heap) : Res (AVal) :=
arb (.val (.bool true) h) call fun v_2 h3 =>
k .ret (upd t 2 v_2) h3

def J_precentorref23_Once_3 (P : Program) (call : FuncId → List AVal → Heap → Res AVal) (fuel : Nat) (k : Kn (Ex × T)) (t : T) (h : Heap) : Res (Ex × T) :=
arb (.val (t 3) h) call fun v_8 h9 =>
arb (.of (aBin P .add 3 (.tmp 10) (.const (.int .i64 1)) v_8 (.int .i64 1)) h9) call fun v_10 h11 =>
arb (.val v_10 h11) call fun i_12 h13 =>
k .normal (upd (upd (upd t 10 v_8) 11 v_10) 3 i_12) h13

def J_precentorref23_Once_4 (P : Program) (call : FuncId → List AVal → Heap → Res AVal) (fuel : Nat) (k : Kn (Ex × T)) (t : T) (h : Heap) : Res (Ex × T) :=
arb (.val (t 0) h) call fun v_18 h19 =>
arb (.val (t 3) h19) call fun v_20 h21 =>
arb (.of (ixsR 4 v_18 v_20) h21) call fun v_22 h23 =>
arb (.of (fadR 0 v_22) h23) call fun v_24 h25 =>
arb (.of (ld1 h25 v_24) h25) call fun v_26 h27 =>
arb (.of (aUn P .not v_26) h27) call fun v_28 h29 =>
arb (.val v_28 h29) call fun v_30 h31 =>
gd (wantB v_30 true) (fun c => arb (.val (t 4) h31) call c) h31 fun v_32 h33 =>
gd (wantB v_30 true) (fun c => arb (.of (aUn P .not v_32) h33) call c) h33 fun v_34 h35 =>
arb (pkR v_30 v_34 (.bool false) h35) call fun v_36 h37 =>
cb v_36 (
arb (.val (.bool false) h37) call fun v_38 h39 =>
k .ret (upd (upd (upd (upd (upd (upd (upd (upd (upd (upd (upd t 77 v_18) 78 v_20) 79 v_22) 80 v_24) 81 v_26) 82 v_28) 83 v_30) 84 v_32) 85 v_34) 86 v_36) 2 v_38) h39) (
k .normal (upd (upd (upd (upd (upd (upd (upd (upd (upd (upd t 77 v_18) 78 v_20) 79 v_22) 80 v_24) 81 v_26) 82 v_28) 83 v_30) 84 v_32) 85 v_34) 86 v_36) h37)

def J_precentorref23_Once_7 (P : Program) (call : FuncId → List AVal → Heap → Res AVal) (fuel : Nat) (k : Kn (Ex × T)) (t : T) (h : Heap) : Res (Ex × T) :=
arb (.val (t 5) h) call fun v_44 h45 =>
arb (.of (aBin P .add 3 (.tmp 15) (.const (.int .i64 1)) v_44 (.int .i64 1)) h45) call fun v_46 h47 =>
arb (.val v_46 h47) call fun k_48 h49 =>
k .normal (upd (upd (upd t 15 v_44) 16 v_46) 5 k_48) h49

def J_precentorref23_Once_9 (P : Program) (call : FuncId → List AVal → Heap → Res AVal) (fuel : Nat) (k : Kn (Ex × T)) (t : T) (h : Heap) : Res (Ex × T) :=
arb (.val (t 4) h) call fun v_52 h53 =>
arb (.val v_52 h53) call fun v_54 h55 =>
gd (wantB v_54 false) (fun c => arb (.val (t 0) h55) call c) h55 fun v_56 h57 =>
gd (wantB v_54 false) (fun c => arb (.val (t 5) h57) call c) h57 fun v_58 h59 =>
gd (wantB v_54 false) (fun c => arb (.of (ixsR 4 v_56 v_58) h59) call c) h59 fun v_60 h61 =>
gd (wantB v_54 false) (fun c => arb (.of (fadR 0 v_60) h61) call c) h61 fun v_62 h63 =>
gd (wantB v_54 false) (fun c => arb (.of (ld1 h63 v_62) h63) call c) h63 fun v_64 h65 =>
arb (pkR v_54 (.bool true) v_64 h65) call fun v_66 h67 =>
arb (.val v_66 h67) call fun sent_68 h69 =>
k .normal (upd (upd (upd (upd (upd (upd (upd (upd (upd t 69 v_52) 70 v_54) 71 v_56) 72 v_58) 73 v_60) 74 v_62) 75 v_64) 76 v_66) 4 sent_68) h69

def J_precentorref23_Once_8 (P : Program) (call : FuncId → List AVal → Heap → Res AVal) (fuel : Nat) (k : Kn (Ex × T)) (t : T) (h : Heap) : Res (Ex × T) :=
lt (sqK (J_precentorref23_Once_9 P call fuel k) k) fun k70 =>
obv (.val (t 0) h) fun v_71 =>
obv (.val (t 3) h) fun v_72 =>
obv (.of (ixsR 4 v_71 v_72) h) fun v_73 =>
obv (.of (fadR 0 v_73) h) fun v_74 =>
obv (.of (ld1 h v_74) h) fun v_75 =>
obv (.val v_75 h) fun v_76 =>
gd (wantB v_76 true) (fun c => obv (.val (t 0) h) fun v => c v h) h fun v_77 h78 =>
gd (wantB v_76 true) (fun c => obv (.val (t 5) h78) fun v => c v h78) h78 fun v_79 h80 =>
gd (wantB v_76 true) (fun c => obv (.of (ixsR 4 v_77 v_79) h80) fun v => c v h80) h80 fun v_81 h82 =>
gd (wantB v_76 true) (fun c => obv (.of (fadR 0 v_81) h82) fun v => c v h82) h82 fun v_83 h84 =>
gd (wantB v_76 true) (fun c => obv (.of (ld1 h84 v_83) h84) fun v => c v h84) h84 fun v_85 h86 =>
obv (pkR v_76 v_85 (.bool false) h86) fun v_87 =>
obv (.val v_87 h86) fun v_88 =>
gd (wantB v_88 false) (fun c => obv (.val (t 0) h86) fun v => c v h86) h86 fun v_89 h90 =>
gd (wantB v_88 false) (fun c => obv (.val (t 3) h90) fun v => c v h90) h90 fun v_91 h92 =>
gd (wantB v_88 false) (fun c => obv (.of (ixsR 4 v_89 v_91) h92) fun v => c v h92) h92 fun v_93 h94 =>
gd (wantB v_88 false) (fun c => obv (.of (fadR 0 v_93) h94) fun v => c v h94) h94 fun v_95 h96 =>
gd (wantB v_88 false) (fun c => obv (.of (ld1 h96 v_95) h96) fun v => c v h96) h96 fun v_97 h98 =>
gd (wantB v_88 false) (fun c => obv (.of (aUn P .not v_97) h98) fun v => c v h98) h98 fun v_99 h100 =>
gd (wantB v_88 false) (fun c => obv (.val v_99 h100) fun v => c v h100) h100 fun v_101 h102 =>
gd (wantB v_101 true) (fun c => obv (.val (t 0) h102) fun v => c v h102) h102 fun v_103 h104 =>
gd (wantB v_101 true) (fun c => obv (.val (t 5) h104) fun v => c v h104) h104 fun v_105 h106 =>
gd (wantB v_101 true) (fun c => obv (.of (ixsR 4 v_103 v_105) h106) fun v => c v h106) h106 fun v_107 h108 =>
gd (wantB v_101 true) (fun c => obv (.of (fadR 0 v_107) h108) fun v => c v h108) h108 fun v_109 h110 =>
gd (wantB v_101 true) (fun c => obv (.of (ld1 h110 v_109) h110) fun v => c v h110) h110 fun v_111 h112 =>
gd (wantB v_101 true) (fun c => obv (.of (aUn P .not v_111) h112) fun v => c v h112) h112 fun v_113 h114 =>
gd (wantB v_88 false) (fun c => obv (pkR v_101 v_113 (.bool false) h114) fun v => c v h114) h114 fun v_115 h116 =>
gd (wantB v_88 false) (fun c => obv (.val v_115 h116) fun v => c v h116) h116 fun v_117 h118 =>
gd (wantB v_117 true) (fun c => obv (.val (t 0) h118) fun v => c v h118) h118 fun v_119 h120 =>
gd (wantB v_117 true) (fun c => obv (.val (t 3) h120) fun v => c v h120) h120 fun v_121 h122 =>
gd (wantB v_117 true) (fun c => obv (.of (ixsR 4 v_119 v_121) h122) fun v => c v h122) h122 fun v_123 h124 =>
gd (wantB v_117 true) (fun c => obv (.of (fadR 1 v_123) h124) fun v => c v h124) h124 fun v_125 h126 =>
gd (wantB v_117 true) (fun c => obv (.of (ld1 h126 v_125) h126) fun v => c v h126) h126 fun v_127 h128 =>
gd (wantB v_117 true) (fun c => obv (.val (t 0) h128) fun v => c v h128) h128 fun v_129 h130 =>
gd (wantB v_117 true) (fun c => obv (.val (t 5) h130) fun v => c v h130) h130 fun v_131 h132 =>
gd (wantB v_117 true) (fun c => obv (.of (ixsR 4 v_129 v_131) h132) fun v => c v h132) h132 fun v_133 h134 =>
gd (wantB v_117 true) (fun c => obv (.of (fadR 1 v_133) h134) fun v => c v h134) h134 fun v_135 h136 =>
gd (wantB v_117 true) (fun c => obv (.of (ld1 h136 v_135) h136) fun v => c v h136) h136 fun v_137 h138 =>
gd (wantB v_117 true) (fun c => obv (.of (aBin P .eql 3 (.tmp 60) (.tmp 65) v_127 v_137) h138) fun v => c v h138) h138 fun v_139 h140 =>
gd (wantB v_88 false) (fun c => obv (pkR v_117 v_139 (.bool false) h140) fun v => c v h140) h140 fun v_141 h142 =>
obv (pkR v_88 (.bool true) v_141 h142) fun v_143 =>
cb v_143 (
arb (.val (.bool false) h142) call fun v_144 h145 =>
k70 .ret (upd (upd (upd (upd (upd (upd (upd (upd (upd (upd (upd (upd (upd (upd (upd (upd (upd (upd (upd (upd (upd (upd (upd (upd (upd (upd (upd (upd (upd (upd (upd (upd (upd (upd (upd (upd (upd (upd (upd (upd (upd (upd t 28 v_71) 29 v_72) 30 v_73) 31 v_74) 32 v_75) 33 v_76) 34 v_77) 35 v_79) 36 v_81) 37 v_83) 38 v_85) 39 v_87) 40 v_88) 41 v_89) 42 v_91) 43 v_93) 44 v_95) 45 v_97) 46 v_99) 47 v_101) 48 v_103) 49 v_105) 50 v_107) 51 v_109) 52 v_111) 53 v_113) 54 v_115) 55 v_117) 56 v_119) 57 v_121) 58 v_123) 59 v_125) 60 v_127) 61 v_129) 62 v_131) 63 v_133) 64 v_135) 65 v_137) 66 v_139) 67 v_141) 68 v_143) 2 v_144) h145) (
k70 .normal (upd (upd (upd (upd (upd (upd (upd (upd (upd (upd (upd (upd (upd (upd (upd (upd (upd (upd (upd (upd (upd (upd (upd (upd (upd (upd (upd (upd (upd (upd (upd (upd (upd (upd (upd (upd (upd (upd (upd (upd (upd t 28 v_71) 29 v_72) 30 v_73) 31 v_74) 32 v_75) 33 v_76) 34 v_77) 35 v_79) 36 v_81) 37 v_83) 38 v_85) 39 v_87) 40 v_88) 41 v_89) 42 v_91) 43 v_93) 44 v_95) 45 v_97) 46 v_99) 47 v_101) 48 v_103) 49 v_105) 50 v_107) 51 v_109) 52 v_111) 53 v_113) 54 v_115) 55 v_117) 56 v_119) 57 v_121) 58 v_123) 59 v_125) 60 v_127) 61 v_129) 62 v_131) 63 v_133) 64 v_135) 65 v_137) 66 v_139) 67 v_141) 68 v_143) h142)

def J_precentorref23_Once_6 (P : Program) (call : FuncId → List AVal → Heap → Res AVal) (fuel : Nat) (k : Kn (Ex × T)) (t : T) (h : Heap) : Res (Ex × T) :=
lt (sqK (J_precentorref23_Once_7 P call fuel k) k) fun k50 =>
lt (blkK 3 k50) fun k51 =>
lt (sqK (J_precentorref23_Once_8 P call fuel k51) k51) fun k146 =>
obv (.val (t 0) h) fun v_147 =>
obv (.val (t 5) h) fun v_149 =>
obv (.of (ixsR 4 v_147 v_149) h) fun v_151 =>
obv (.of (ldn 4 h v_151) h) fun v_153 => ifb true <|
arbE (.call F_precentorref23_id [v_153] h) call fun v_155 h156 => lt h156 fun g156 => ifb (true && true) <|
obv (.val (t 0) g156) fun v_157 =>
obv (.val (t 3) g156) fun v_159 =>
obv (.of (ixsR 4 v_157 v_159) g156) fun v_161 =>
obv (.of (ldn 4 g156 v_161) g156) fun v_163 => ifb (isV v_163 (arVal (.of (ldn 4 h v_161) h)) && true) <|
arbE (.call F_precentorref23_id [v_163] g156) call fun v_165 h166 => lt h166 fun g166 => ifb (true && true) <|
obv (.of (aBin P .neq 30 (.tmp 21) (.tmp 26) v_155 v_165) g166) fun v_167 =>
cb v_167 (
k146 (.exit 3) (upd (upd (upd (upd (upd (upd (upd (upd (upd (upd (upd t 17 v_147) 18 v_149) 19 v_151) 20 v_153) 21 v_155) 22 v_157) 23 v_159) 24 v_161) 25 v_163) 26 v_165) 27 v_167) g166) (
k146 .normal (upd (upd (upd (upd (upd (upd (upd (upd (upd (upd (upd t 17 v_147) 18 v_149) 19 v_151) 20 v_153) 21 v_155) 22 v_157) 23 v_159) 24 v_161) 25 v_163) 26 v_165) 27 v_167) g166)

def L_precentorref23_Once_5 (P : Program) (call : FuncId → List AVal → Heap → Res AVal) (fuel : Nat) (t : T) (h : Heap) : Res (Ex × T) :=
lt okK fun k =>
lt (sqK (J_precentorref23_Once_6 P call fuel k) k) fun k169 =>
arb (.val (t 5) h) call fun v_170 h171 =>
arb (.val (t 3) h171) call fun v_172 h173 =>
arb (.of (aBin P .lss 3 (.tmp 12) (.tmp 13) v_170 v_172) h173) call fun v_174 h175 =>
cb v_174 (
k169 .normal (upd (upd (upd t 12 v_170) 13 v_172) 14 v_174) h175) (
k169 (.exit 2) (upd (upd (upd t 12 v_170) 13 v_172) 14 v_174) h175)

def J_precentorref23_Once_2 (P : Program) (call : FuncId → List AVal → Heap → Res AVal) (fuel : Nat) (k : Kn (Ex × T)) (t : T) (h : Heap) : Res (Ex × T) :=
lt (sqK (J_precentorref23_Once_3 P call fuel k) k) fun k14 =>
lt (blkK 1 k14) fun k15 =>
arb (.val (.bool false) h) call fun sent_16 h17 =>
lt (sqK (J_precentorref23_Once_4 P call fuel k15) k15) fun k40 =>
arb (.val (.int .i64 0) h17) call fun k_41 h42 =>
lt (blkK 2 k40) fun k43 =>
(loopN (L_precentorref23_Once_5 P call fuel) fuel (upd (upd t 4 sent_16) 5 k_41) h42).bind (lpK k43)

def L_precentorref23_Once_1 (P : Program) (call : FuncId → List AVal → Heap → Res AVal) (fuel : Nat) (t : T) (h : Heap) : Res (Ex × T) :=
lt okK fun k =>
lt (sqK (J_precentorref23_Once_2 P call fuel k) k) fun k176 =>
arb (.val (t 3) h) call fun v_177 h178 =>
arb (.val (t 0) h178) call fun v_179 h180 =>
arb (.of (lenL v_179) h180) call fun v_181 h182 =>
arb (.of (aBin P .lss 3 (.tmp 6) (.tmp 8) v_177 v_181) h182) call fun v_183 h184 =>
cb v_183 (
k176 .normal (upd (upd (upd (upd t 6 v_177) 7 v_179) 8 v_181) 9 v_183) h184) (
k176 (.exit 0) (upd (upd (upd (upd t 6 v_177) 7 v_179) 8 v_181) 9 v_183) h184)

def S_precentorref23_Once (P : Program) (call : FuncId → List AVal → Heap → Res AVal) (fuel : Nat) (l_a0 : AVal) (h : Heap) : Res AVal :=
lt (retK P [.tmp 2]) fun k =>
arb (.val (.bool false) h) call fun v_0 h1 =>
lt (sqK (J_precentorref23_Once_0 P call fuel k) k) fun k4 =>
arb (.val (.int .i64 0) h1) call fun i_5 h6 =>
lt (blkK 0 k4) fun k7 =>
(loopN (L_precentorref23_Once_1 P call fuel) fuel (upd (upd (enterT [l_a0]) 2 v_0) 3 i_5) h6).bind (lpK k7)
theorem E_precentorref23_Once (call : FuncId → List AVal → Heap → Res AVal) (fuel : Nat) (l_a0 : AVal) (h : Heap) : bodyR Try.prog call fuel Try.f22 [l_a0] h = S_precentorref23_Once Try.prog call fuel l_a0 h := by kernel_rfl
theorem R_precentorref23_Once {X : XTab} (l_a0 : AVal) {h : Heap} {Q : AVal → Heap → Prop} (hx : X F_precentorref23_Once [l_a0] = none) (q : Tells (fun m => S_precentorref23_Once Try.prog (acallX Try.prog X m) m l_a0 h) Q) :
    Tells (fun m => acallX Try.prog X m F_precentorref23_Once [l_a0] h) Q :=
  Tells.later (q.le fun m => (E_precentorref23_Once (acallX Try.prog X m) m l_a0 h) ▸ acallX_le Try.func22 hx m h)

/-! ### precentor/precentorref23.Agree -/
def J_precentorref23_Agree_0 (P : Program) (call : FuncId → List AVal → Heap → Res AVal) (fuel : Nat) (k : Kn (AVal)) (t : T) (h : Heap) : Res (AVal) :=
arb (.val (.bool true) h) call fun v_8 h9 =>
k .ret (upd t 2 v_8) h9

def J_precentorref23_Agree_3 (P : Program) (call : FuncId → List AVal → Heap → Res AVal) (fuel : Nat) (k : Kn (Ex × T)) (t : T) (h : Heap) : Res (Ex × T) :=
arb (.val (t 4) h) call fun v_14 h15 =>
arb (.of (aBin P .add 3 (.tmp 17) (.const (.int .i64 1)) v_14 (.int .i64 1)) h15) call fun v_16 h17 =>
arb (.val v_16 h17) call fun i_18 h19 =>
k .normal (upd (upd (upd t 17 v_14) 18 v_16) 4 i_18) h19

def J_precentorref23_Agree_6 (P : Program) (call : FuncId → List AVal → Heap → Res AVal) (fuel : Nat) (k : Kn (Ex × T)) (t : T) (h : Heap) : Res (Ex × T) :=
arb (.val (t 6) h) call fun v_39 h40 =>
arb (.of (aBin P .add 3 (.tmp 28) (.const (.int .i64 1)) v_39 (.int .i64 1)) h40) call fun v_41 h42 =>
arb (.val v_41 h42) call fun k_43 h44 =>
k .normal (upd (upd (upd t 28 v_39) 29 v_41) 6 k_43) h44

def J_precentorref23_Agree_9 (P : Program) (call : FuncId → List AVal → Heap → Res AVal) (fuel : Nat) (k : Kn (Ex × T)) (t : T) (h : Heap) : Res (Ex × T) :=
arb (.val (t 9) h) call fun v_66 h67 =>
arb (.of (aBin P .add 3 (.tmp 40) (.const (.int .i64 1)) v_66 (.int .i64 1)) h67) call fun v_68 h69 =>
arb (.val v_68 h69) call fun j_70 h71 =>
k .normal (upd (upd (upd t 40 v_66) 41 v_68) 9 j_70) h71

def J_precentorref23_Agree_10 (P : Program) (call : FuncId → List AVal → Heap → Res AVal) (fuel : Nat) (k : Kn (Ex × T)) (t : T) (h : Heap) : Res (Ex × T) :=
arb (.val (t 8) h) call fun v_88 h89 =>
arb (.val (t 10) h89) call fun v_90 h91 =>
arb (.of (aPureB P (Builtin.max_ #[3, 3] 3) [v_88, v_90]) h91) call fun v_92 h93 =>
arb (.val v_92 h93) call fun last_94 h95 =>
k .normal (upd (upd (upd (upd t 55 v_88) 56 v_90) 57 v_92) 8 last_94) h95

def J_precentorref23_Agree_8 (P : Program) (call : FuncId → List AVal → Heap → Res AVal) (fuel : Nat) (k : Kn (Ex × T)) (t : T) (h : Heap) : Res (Ex × T) :=
lt (sqK (J_precentorref23_Agree_9 P call fuel k) k) fun k72 =>
lt (blkK 5 k72) fun k73 =>
arb (.val (t 7) h) call fun v_74 h75 =>
arb (.val (t 5) h75) call fun v_76 h77 =>
arb (.val (t 9) h77) call fun v_78 h79 =>
arb (.of (ixsR 2 v_76 v_78) h79) call fun v_80 h81 =>
arb (.of (ldn 2 h81 v_80) h81) call fun v_82 h83 =>
arb (.call F_precentorref23_at [v_74, v_82] h83) call fun v_84 h85 =>
arb (.val v_84 h85) call fun n_86 h87 =>
lt (sqK (J_precentorref23_Agree_10 P call fuel k73) k73) fun k96 =>
arb (.val n_86 h87) call fun v_97 h98 =>
arb (.of (aBin P .geq 3 (.tmp 48) (.const (.int .i64 0)) v_97 (.int .i64 0)) h98) call fun v_99 h100 =>
arb (.val v_99 h100) call fun v_101 h102 =>
gd (wantB v_101 true) (fun c => arb (.val n_86 h102) call c) h102 fun v_103 h104 =>
gd (wantB v_101 true) (fun c => arb (.val (t 8) h104) call c) h104 fun v_105 h106 =>
gd (wantB v_101 true) (fun c => arb (.of (aBin P .lss 3 (.tmp 51) (.tmp 52) v_103 v_105) h106) call c) h106 fun v_107 h108 =>
arb (pkR v_101 v_107 (.bool false) h108) call fun v_109 h110 =>
cb v_109 (
arb (.val (.bool false) h110) call fun v_111 h112 =>
k96 .ret (upd (upd (upd (upd (upd (upd (upd (upd (upd (upd (upd (upd (upd (upd (upd t 42 v_74) 43 v_76) 44 v_78) 45 v_80) 46 v_82) 47 v_84) 10 n_86) 48 v_97) 49 v_99) 50 v_101) 51 v_103) 52 v_105) 53 v_107) 54 v_109) 2 v_111) h112) (
k96 .normal (upd (upd (upd (upd (upd (upd (upd (upd (upd (upd (upd (upd (upd (upd t 42 v_74) 43 v_76) 44 v_78) 45 v_80) 46 v_82) 47 v_84) 10 n_86) 48 v_97) 49 v_99) 50 v_101) 51 v_103) 52 v_105) 53 v_107) 54 v_109) h110)

def L_precentorref23_Agree_7 (P : Program) (call : FuncId → List AVal → Heap → Res AVal) (fuel : Nat) (t : T) (h : Heap) : Res (Ex × T) :=
lt okK fun k =>
lt (sqK (J_precentorref23_Agree_8 P call fuel k) k) fun k113 =>
arb (.val (t 9) h) call fun v_114 h115 =>
arb (.val (t 5) h115) call fun v_116 h117 =>
arb (.of (lenL v_116) h117) call fun v_118 h119 =>
arb (.of (aBin P .lss 3 (.tmp 36) (.tmp 38) v_114 v_118) h119) call fun v_120 h121 =>
cb v_120 (
k113 .normal (upd (upd (upd (upd t 36 v_114) 37 v_116) 38 v_118) 39 v_120) h121) (
k113 (.exit 4) (upd (upd (upd (upd t 36 v_114) 37 v_116) 38 v_118) 39 v_120) h121)

def J_precentorref23_Agree_5 (P : Program) (call : FuncId → List AVal → Heap → Res AVal) (fuel : Nat) (k : Kn (Ex × T)) (t : T) (h : Heap) : Res (Ex × T) :=
lt (sqK (J_precentorref23_Agree_6 P call fuel k) k) fun k45 =>
lt (blkK 3 k45) fun k46 =>
arb (.val (t 0) h) call fun v_47 h48 =>
arb (.val (t 3) h48) call fun v_49 h50 =>
arb (.val (t 6) h50) call fun v_51 h52 =>
arb (.of (ixsR 1 v_49 v_51) h52) call fun v_53 h54 =>
arb (.of (ld1 h54 v_53) h54) call fun v_55 h56 =>
arb (.call F_precentorref23_first [v_47, v_55] h56) call fun v_57 h58 =>
arb (.val v_57 h58) call fun b_59 h60 =>
arb (.val (.int .i64 (-1)) h60) call fun last_61 h62 =>
arb (.val (.int .i64 0) h62) call fun j_63 h64 =>
lt (blkK 4 k46) fun k65 =>
(loopN (L_precentorref23_Agree_7 P call fuel) fuel (upd (upd (upd (upd (upd (upd (upd (upd (upd t 30 v_47) 31 v_49) 32 v_51) 33 v_53) 34 v_55) 35 v_57) 7 b_59) 8 last_61) 9 j_63) h64).bind (lpK k65)

def L_precentorref23_Agree_4 (P : Program) (call : FuncId → List AVal → Heap → Res AVal) (fuel : Nat) (t : T) (h : Heap) : Res (Ex × T) :=
lt okK fun k =>
lt (sqK (J_precentorref23_Agree_5 P call fuel k) k) fun k122 =>
arb (.val (t 6) h) call fun v_123 h124 =>
arb (.val (t 4) h124) call fun v_125 h126 =>
arb (.of (aBin P .lss 3 (.tmp 25) (.tmp 26) v_123 v_125) h126) call fun v_127 h128 =>
cb v_127 (
k122 .normal (upd (upd (upd t 25 v_123) 26 v_125) 27 v_127) h128) (
k122 (.exit 2) (upd (upd (upd t 25 v_123) 26 v_125) 27 v_127) h128)

def J_precentorref23_Agree_2 (P : Program) (call : FuncId → List AVal → Heap → Res AVal) (fuel : Nat) (k : Kn (Ex × T)) (t : T) (h : Heap) : Res (Ex × T) :=
lt (sqK (J_precentorref23_Agree_3 P call fuel k) k) fun k20 =>
lt (blkK 1 k20) fun k21 =>
arb (.val (t 0) h) call fun v_22 h23 =>
arb (.val (t 3) h23) call fun v_24 h25 =>
arb (.val (t 4) h25) call fun v_26 h27 =>
arb (.of (ixsR 1 v_24 v_26) h27) call fun v_28 h29 =>
arb (.of (ld1 h29 v_28) h29) call fun v_30 h31 =>
arb (.call F_precentorref23_first [v_22, v_30] h31) call fun v_32 h33 =>
arb (.val v_32 h33) call fun a_34 h35 =>
arb (.val (.int .i64 0) h35) call fun k_36 h37 =>
lt (blkK 2 k21) fun k38 =>
(loopN (L_precentorref23_Agree_4 P call fuel) fuel (upd (upd (upd (upd (upd (upd (upd (upd t 19 v_22) 20 v_24) 21 v_26) 22 v_28) 23 v_30) 24 v_32) 5 a_34) 6 k_36) h37).bind (lpK k38)

def L_precentorref23_Agree_1 (P : Program) (call : FuncId → List AVal → Heap → Res AVal) (fuel : Nat) (t : T) (h : Heap) : Res (Ex × T) :=
lt okK fun k =>
lt (sqK (J_precentorref23_Agree_2 P call fuel k) k) fun k129 =>
arb (.val (t 4) h) call fun v_130 h131 =>
arb (.val (t 3) h131) call fun v_132 h133 =>
arb (.of (lenL v_132) h133) call fun v_134 h135 =>
arb (.of (aBin P .lss 3 (.tmp 13) (.tmp 15) v_130 v_134) h135) call fun v_136 h137 =>
cb v_136 (
k129 .normal (upd (upd (upd (upd t 13 v_130) 14 v_132) 15 v_134) 16 v_136) h137) (
k129 (.exit 0) (upd (upd (upd (upd t 13 v_130) 14 v_132) 15 v_134) 16 v_136) h137)

def S_precentorref23_Agree (P : Program) (call : FuncId → List AVal → Heap → Res AVal) (fuel : Nat) (l_a0 : AVal) (h : Heap) : Res AVal :=
lt (retK P [.tmp 2]) fun k =>
arb (.val (.bool false) h) call fun v_0 h1 =>
arb (.val l_a0 h1) call fun v_2 h3 =>
arb (.call F_precentorref23_clients [v_2] h3) call fun v_4 h5 =>
arb (.val v_4 h5) call fun who_6 h7 =>
lt (sqK (J_precentorref23_Agree_0 P call fuel k) k) fun k10 =>
arb (.val (.int .i64 0) h7) call fun i_11 h12 =>
lt (blkK 0 k10) fun k13 =>
(loopN (L_precentorref23_Agree_1 P call fuel) fuel (upd (upd (upd (upd (upd (enterT [l_a0]) 2 v_0) 11 v_2) 12 v_4) 3 who_6) 4 i_11) h12).bind (lpK k13)
theorem E_precentorref23_Agree (call : FuncId → List AVal → Heap → Res AVal) (fuel : Nat) (l_a0 : AVal) (h : Heap) : bodyR Try.prog call fuel Try.f23 [l_a0] h = S_precentorref23_Agree Try.prog call fuel l_a0 h := by kernel_rfl
theorem R_precentorref23_Agree {X : XTab} (l_a0 : AVal) {h : Heap} {Q : AVal → Heap → Prop} (hx : X F_precentorref23_Agree [l_a0] = none) (q : Tells (fun m => S_precentorref23_Agree Try.prog (acallX Try.prog X m) m l_a0 h) Q) :
    Tells (fun m => acallX Try.prog X m F_precentorref23_Agree [l_a0] h) Q :=
  Tells.later (q.le fun m => (E_precentorref23_Agree (acallX Try.prog X m) m l_a0 h) ▸ acallX_le Try.func23 hx m h)

/-! ### precentor/precentorref23.Causes -/
def J_precentorref23_Causes_0 (P : Program) (call : FuncId → List AVal → Heap → Res AVal) (fuel : Nat) (k : Kn (AVal)) (t : T) (h : Heap) : Res (AVal) :=
arb (.val (t 5) h) call fun v_12 h13 =>
arb (.val v_12 h13) call fun v_14 h15 =>
k .ret (upd (upd t 81 v_12) 4 v_14) h15

def J_precentorref23_Causes_3 (P : Program) (call : FuncId → List AVal → Heap → Res AVal) (fuel : Nat) (k : Kn (Ex × T)) (t : T) (h : Heap) : Res (Ex × T) :=
arb (.val (t 7) h) call fun v_20 h21 =>
arb (.of (aBin P .add 3 (.tmp 16) (.const (.int .i64 1)) v_20 (.int .i64 1)) h21) call fun v_22 h23 =>
arb (.val v_22 h23) call fun i_24 h25 =>
k .normal (upd (upd (upd t 16 v_20) 17 v_22) 7 i_24) h25

def J_precentorref23_Causes_6 (P : Program) (call : FuncId → List AVal → Heap → Res AVal) (fuel : Nat) (k : Kn (Ex × T)) (t : T) (h : Heap) : Res (Ex × T) :=
arb (.val (t 8) h) call fun v_31 h32 =>
arb (.of (aBin P .add 3 (.tmp 22) (.const (.int .i64 1)) v_31 (.int .i64 1)) h32) call fun v_33 h34 =>
arb (.val v_33 h34) call fun k_35 h36 =>
k .normal (upd (upd (upd t 22 v_31) 23 v_33) 8 k_35) h36

def J_precentorref23_Causes_8 (P : Program) (call : FuncId → List AVal → Heap → Res AVal) (fuel : Nat) (k : Kn (Ex × T)) (t : T) (h : Heap) : Res (Ex × T) :=
k (.exit 2) t h

def J_precentorref23_Causes_11 (P : Program) (call : FuncId → List AVal → Heap → Res AVal) (fuel : Nat) (k : Kn (Ex × T)) (t : T) (h : Heap) : Res (Ex × T) :=
arb (.val (t 9) h) call fun v_43 h44 =>
arb (.of (aBin P .add 3 (.tmp 45) (.const (.int .i64 1)) v_43 (.int .i64 1)) h44) call fun v_45 h46 =>
arb (.val v_45 h46) call fun j_47 h48 =>
k .normal (upd (upd (upd t 45 v_43) 46 v_45) 9 j_47) h48

def J_precentorref23_Causes_12 (P : Program) (call : FuncId → List AVal → Heap → Res AVal) (fuel : Nat) (k : Kn (Ex × T)) (t : T) (h : Heap) : Res (Ex × T) :=
arb (.val (t 5) h) call fun v_51 h52 =>
arb (.val (t 0) h52) call fun v_53 h54 =>
arb (.val (t 9) h54) call fun v_55 h56 =>
arb (.of (ixsR 4 v_53 v_55) h56) call fun v_57 h58 =>
arb (.of (ldn 4 h58 v_57) h58) call fun v_59 h60 =>
arb (.call F_precentorref23_id [v_59] h60) call fun v_61 h62 =>
arb (.call F_precentorref23_put [v_51, v_61] h62) call fun v_63 h64 =>
arb (.val v_63 h64) call fun out_65 h66 =>
arb (.val (t 6) h66) call fun v_67 h68 =>
arb (.val (t 0) h68) call fun v_69 h70 =>
arb (.val (t 9) h70) call fun v_71 h72 =>
arb (.of (ixsR 4 v_69 v_71) h72) call fun v_73 h74 =>
arb (.of (ldn 4 h74 v_73) h74) call fun v_75 h76 =>
arb (.call F_precentorref23_id [v_75] h76) call fun v_77 h78 =>
arb (.call F_precentorref23_at [v_67, v_77] h78) call fun v_79 h80 =>
arb (.of (aBin P .lss 3 (.tmp 71) (.const (.int .i64 0)) v_79 (.int .i64 0)) h80) call fun v_81 h82 =>
cb v_81 (
arb (.val (t 6) h82) call fun v_83 h84 =>
arb (.val (t 0) h84) call fun v_85 h86 =>
arb (.val (t 9) h86) call fun v_87 h88 =>
arb (.of (ixsR 4 v_85 v_87) h88) call fun v_89 h90 =>
arb (.of (ldn 4 h90 v_89) h90) call fun v_91 h92 =>
arb (.call F_precentorref23_id [v_91] h92) call fun v_93 h94 =>
arb (bslR 2 [(.int .i64 0), (.int .i64 0)] 1 h94 [(0, 2, v_93)]) call fun v_95 h96 =>
arb (appR 2 16 h96 v_83 v_95) call fun v_97 h98 =>
arb (.val v_97 h98) call fun todo_99 h100 =>
k .normal (upd (upd (upd (upd (upd (upd (upd (upd (upd (upd (upd (upd (upd (upd (upd (upd (upd (upd (upd (upd (upd (upd (upd (upd (upd t 58 v_51) 59 v_53) 60 v_55) 61 v_57) 62 v_59) 63 v_61) 64 v_63) 5 out_65) 65 v_67) 66 v_69) 67 v_71) 68 v_73) 69 v_75) 70 v_77) 71 v_79) 72 v_81) 73 v_83) 74 v_85) 75 v_87) 76 v_89) 77 v_91) 78 v_93) 79 v_95) 80 v_97) 6 todo_99) h100) (
k .normal (upd (upd (upd (upd (upd (upd (upd (upd (upd (upd (upd (upd (upd (upd (upd (upd t 58 v_51) 59 v_53) 60 v_55) 61 v_57) 62 v_59) 63 v_61) 64 v_63) 5 out_65) 65 v_67) 66 v_69) 67 v_71) 68 v_73) 69 v_75) 70 v_77) 71 v_79) 72 v_81) h82)

def J_precentorref23_Causes_10 (P : Program) (call : FuncId → List AVal → Heap → Res AVal) (fuel : Nat) (k : Kn (Ex × T)) (t : T) (h : Heap) : Res (Ex × T) :=
lt (sqK (J_precentorref23_Causes_11 P call fuel k) k) fun k49 =>
lt (blkK 5 k49) fun k50 =>
lt (sqK (J_precentorref23_Causes_12 P call fuel k50) k50) fun k101 =>
obv (.val (t 0) h) fun v_102 =>
obv (.val (t 9) h) fun v_103 =>
obv (.of (ixsR 4 v_102 v_103) h) fun v_104 =>
obv (.of (fadR 1 v_104) h) fun v_105 =>
obv (.of (ld1 h v_105) h) fun v_106 =>
obv (.val (t 6) h) fun v_107 =>
obv (.val (t 7) h) fun v_108 =>
obv (.of (ixsR 2 v_107 v_108) h) fun v_109 =>
obv (.of (fadR 0 v_109) h) fun v_110 =>
obv (.of (ld1 h v_110) h) fun v_111 =>
obv (.of (aBin P .neq 3 (.tmp 51) (.tmp 56) v_106 v_111) h) fun v_112 =>
cb v_112 (
k101 (.exit 5) (upd (upd (upd (upd (upd (upd (upd (upd (upd (upd (upd t 47 v_102) 48 v_103) 49 v_104) 50 v_105) 51 v_106) 52 v_107) 53 v_108) 54 v_109) 55 v_110) 56 v_111) 57 v_112) h) (
k101 .normal (upd (upd (upd (upd (upd (upd (upd (upd (upd (upd (upd t 47 v_102) 48 v_103) 49 v_104) 50 v_105) 51 v_106) 52 v_107) 53 v_108) 54 v_109) 55 v_110) 56 v_111) 57 v_112) h)

def L_precentorref23_Causes_9 (P : Program) (call : FuncId → List AVal → Heap → Res AVal) (fuel : Nat) (t : T) (h : Heap) : Res (Ex × T) :=
lt okK fun k =>
lt (sqK (J_precentorref23_Causes_10 P call fuel k) k) fun k113 =>
arb (.val (t 9) h) call fun v_114 h115 =>
arb (.val (t 8) h115) call fun v_116 h117 =>
arb (.of (aBin P .lss 3 (.tmp 42) (.tmp 43) v_114 v_116) h117) call fun v_118 h119 =>
cb v_118 (
k113 .normal (upd (upd (upd t 42 v_114) 43 v_116) 44 v_118) h119) (
k113 (.exit 4) (upd (upd (upd t 42 v_114) 43 v_116) 44 v_118) h119)

def J_precentorref23_Causes_7 (P : Program) (call : FuncId → List AVal → Heap → Res AVal) (fuel : Nat) (k : Kn (Ex × T)) (t : T) (h : Heap) : Res (Ex × T) :=
lt (sqK (J_precentorref23_Causes_8 P call fuel k) k) fun k39 =>
arb (.val (.int .i64 0) h) call fun j_40 h41 =>
lt (blkK 4 k39) fun k42 =>
(loopN (L_precentorref23_Causes_9 P call fuel) fuel (upd t 9 j_40) h41).bind (lpK k42)

def J_precentorref23_Causes_5 (P : Program) (call : FuncId → List AVal → Heap → Res AVal) (fuel : Nat) (k : Kn (Ex × T)) (t : T) (h : Heap) : Res (Ex × T) :=
lt (sqK (J_precentorref23_Causes_6 P call fuel k) k) fun k37 =>
lt (blkK 3 k37) fun k38 =>
lt (sqK (J_precentorref23_Causes_7 P call fuel k38) k38) fun k120 =>
obv (.val (t 0) h) fun v_121 =>
obv (.val (t 8) h) fun v_123 =>
obv (.of (ixsR 4 v_121 v_123) h) fun v_125 =>
obv (.of (fadR 0 v_125) h) fun v_127 =>
obv (.of (ld1 h v_127) h) fun v_129 => ifb true <|
obv (.of (aUn P .not v_129) h) fun v_131 =>
obv (.val v_131 h) fun v_133 =>
gdr (wantB v_133 false) (fun c => obv (.val (t 0) h) fun v_135 =>
c true v_135 h) h fun w137 v_135 h137 =>
gdr (wantB v_133 false) (fun c => obv (.val (t 8) h137) fun v_138 =>
c true v_138 h137) h137 fun w140 v_138 h140 =>
gdr (wantB v_133 false) (fun c => obv (.of (ixsR 4 v_135 v_138) h140) fun v_141 =>
c true v_141 h140) h140 fun w143 v_141 h143 =>
gdr (wantB v_133 false) (fun c => obv (.of (ldn 4 h143 v_141) h143) fun v_144 => ifb true <|
c true v_144 h143) h143 fun w146 v_144 h146 =>
gdr (wantB v_133 false) (fun c => arbE (.call F_precentorref23_id [v_144] h146) call fun v_147 h148 => lt h148 fun g148 => ifb (true && true) <|
c true v_147 g148) h146 fun w149 v_147 h149 =>
gdr (wantB v_133 false) (fun c => obv (.val (t 6) h149) fun v_150 =>
c true v_150 h149) h149 fun w152 v_150 h152 =>
gdr (wantB v_133 false) (fun c => obv (.val (t 7) h152) fun v_153 =>
c true v_153 h152) h152 fun w155 v_153 h155 =>
gdr (wantB v_133 false) (fun c => obv (.of (ixsR 2 v_150 v_153) h155) fun v_156 =>
c true v_156 h155) h155 fun w158 v_156 h158 =>
gdr (wantB v_133 false) (fun c => obv (.of (ldn 2 h158 v_156) h158) fun v_159 => ifb ((!w149 || isV v_159 (arVal (.of (ldn 2 h146 v_156) h146))) && true) <|
c true v_159 h158) h158 fun w161 v_159 h161 =>
gdr (wantB v_133 false) (fun c => obv (.of (aBin P .neq 30 (.tmp 35) (.tmp 39) v_147 v_159) h161) fun v_162 =>
c true v_162 h161) h161 fun w164 v_162 h164 =>
obv (pkR v_133 (.bool true) v_162 h164) fun v_165 =>
cb v_165 (
k120 (.exit 3) (upd (upd (upd (upd (upd (upd (upd (upd (upd (upd (upd (upd (upd (upd (upd (upd (upd (upd t 24 v_121) 25 v_123) 26 v_125) 27 v_127) 28 v_129) 29 v_131) 30 v_133) 31 v_135) 32 v_138) 33 v_141) 34 v_144) 35 v_147) 36 v_150) 37 v_153) 38 v_156) 39 v_159) 40 v_162) 41 v_165) h164) (
k120 .normal (upd (upd (upd (upd (upd (upd (upd (upd (upd (upd (upd (upd (upd (upd (upd (upd (upd (upd t 24 v_121) 25 v_123) 26 v_125) 27 v_127) 28 v_129) 29 v_131) 30 v_133) 31 v_135) 32 v_138) 33 v_141) 34 v_144) 35 v_147) 36 v_150) 37 v_153) 38 v_156) 39 v_159) 40 v_162) 41 v_165) h164)

def L_precentorref23_Causes_4 (P : Program) (call : FuncId → List AVal → Heap → Res AVal) (fuel : Nat) (t : T) (h : Heap) : Res (Ex × T) :=
lt okK fun k =>
lt (sqK (J_precentorref23_Causes_5 P call fuel k) k) fun k167 =>
arb (.val (t 8) h) call fun v_168 h169 =>
arb (.val (t 0) h169) call fun v_170 h171 =>
arb (.of (lenL v_170) h171) call fun v_172 h173 =>
arb (.of (aBin P .lss 3 (.tmp 18) (.tmp 20) v_168 v_172) h173) call fun v_174 h175 =>
cb v_174 (
k167 .normal (upd (upd (upd (upd t 18 v_168) 19 v_170) 20 v_172) 21 v_174) h175) (
k167 (.exit 2) (upd (upd (upd (upd t 18 v_168) 19 v_170) 20 v_172) 21 v_174) h175)

def J_precentorref23_Causes_2 (P : Program) (call : FuncId → List AVal → Heap → Res AVal) (fuel : Nat) (k : Kn (Ex × T)) (t : T) (h : Heap) : Res (Ex × T) :=
lt (sqK (J_precentorref23_Causes_3 P call fuel k) k) fun k26 =>
lt (blkK 1 k26) fun k27 =>
arb (.val (.int .i64 0) h) call fun k_28 h29 =>
lt (blkK 2 k27) fun k30 =>
(loopN (L_precentorref23_Causes_4 P call fuel) fuel (upd t 8 k_28) h29).bind (lpK k30)

def L_precentorref23_Causes_1 (P : Program) (call : FuncId → List AVal → Heap → Res AVal) (fuel : Nat) (t : T) (h : Heap) : Res (Ex × T) :=
lt okK fun k =>
lt (sqK (J_precentorref23_Causes_2 P call fuel k) k) fun k176 =>
arb (.val (t 7) h) call fun v_177 h178 =>
arb (.val (t 6) h178) call fun v_179 h180 =>
arb (.of (lenL v_179) h180) call fun v_181 h182 =>
arb (.of (aBin P .lss 3 (.tmp 12) (.tmp 14) v_177 v_181) h182) call fun v_183 h184 =>
cb v_183 (
k176 .normal (upd (upd (upd (upd t 12 v_177) 13 v_179) 14 v_181) 15 v_183) h184) (
k176 (.exit 0) (upd (upd (upd (upd t 12 v_177) 13 v_179) 14 v_181) 15 v_183) h184)

def S_precentorref23_Causes (P : Program) (call : FuncId → List AVal → Heap → Res AVal) (fuel : Nat) (l_a0 x_a1 : AVal) (h : Heap) : Res AVal :=
lt (retK P [.tmp 4]) fun k =>
arb (boxR x_a1 h) call fun x_0 h1 =>
arb (.val .nils h1) call fun v_2 h3 =>
arb (.val .nils h3) call fun out_4 h5 =>
arb (.of (ldn 2 h5 x_0) h5) call fun v_6 h7 =>
arb (bslR 2 [(.int .i64 0), (.int .i64 0)] 1 h7 [(0, 2, v_6)]) call fun v_8 h9 =>
arb (.val v_8 h9) call fun todo_10 h11 =>
lt (sqK (J_precentorref23_Causes_0 P call fuel k) k) fun k16 =>
arb (.val (.int .i64 0) h11) call fun i_17 h18 =>
lt (blkK 0 k16) fun k19 =>
(loopN (L_precentorref23_Causes_1 P call fuel) fuel (upd (upd (upd (upd (upd (upd (upd (enterT [l_a0, x_a1]) 3 x_0) 4 v_2) 5 out_4) 10 v_6) 11 v_8) 6 todo_10) 7 i_17) h18).bind (lpK k19)
theorem E_precentorref23_Causes (call : FuncId → List AVal → Heap → Res AVal) (fuel : Nat) (l_a0 x_a1 : AVal) (h : Heap) : bodyR Try.prog call fuel Try.f24 [l_a0, x_a1] h = S_precentorref23_Causes Try.prog call fuel l_a0 x_a1 h := by kernel_rfl
theorem R_precentorref23_Causes {X : XTab} (l_a0 x_a1 : AVal) {h : Heap} {Q : AVal → Heap → Prop} (hx : X F_precentorref23_Causes [l_a0, x_a1] = none) (q : Tells (fun m => S_precentorref23_Causes Try.prog (acallX Try.prog X m) m l_a0 x_a1 h) Q) :
    Tells (fun m => acallX Try.prog X m F_precentorref23_Causes [l_a0, x_a1] h) Q :=
  Tells.later (q.le fun m => (E_precentorref23_Causes (acallX Try.prog X m) m l_a0 x_a1 h) ▸ acallX_le Try.func24 hx m h)

/-! ### precentor/precentorref23.Causal -/
def J_precentorref23_Causal_0 (P : Program) (call : FuncId → List AVal → Heap → Res AVal) (fuel : Nat) (k : Kn (AVal)) (t : T) (h : Heap) : Res (AVal) :=
arb (.val (.bool true) h) call fun v_8 h9 =>
k .ret (upd t 2 v_8) h9

def J_precentorref23_Causal_3 (P : Program) (call : FuncId → List AVal → Heap → Res AVal) (fuel : Nat) (k : Kn (Ex × T)) (t : T) (h : Heap) : Res (Ex × T) :=
arb (.val (t 4) h) call fun v_14 h15 =>
arb (.of (aBin P .add 3 (.tmp 15) (.const (.int .i64 1)) v_14 (.int .i64 1)) h15) call fun v_16 h17 =>
arb (.val v_16 h17) call fun i_18 h19 =>
k .normal (upd (upd (upd t 15 v_14) 16 v_16) 4 i_18) h19

def J_precentorref23_Causal_6 (P : Program) (call : FuncId → List AVal → Heap → Res AVal) (fuel : Nat) (k : Kn (Ex × T)) (t : T) (h : Heap) : Res (Ex × T) :=
arb (.val (t 6) h) call fun v_39 h40 =>
arb (.of (aBin P .add 3 (.tmp 27) (.const (.int .i64 1)) v_39 (.int .i64 1)) h40) call fun v_41 h42 =>
arb (.val v_41 h42) call fun k_43 h44 =>
k .normal (upd (upd (upd t 27 v_39) 28 v_41) 6 k_43) h44

def J_precentorref23_Causal_9 (P : Program) (call : FuncId → List AVal → Heap → Res AVal) (fuel : Nat) (k : Kn (Ex × T)) (t : T) (h : Heap) : Res (Ex × T) :=
arb (.val (t 8) h) call fun v_68 h69 =>
arb (.of (aBin P .add 3 (.tmp 41) (.const (.int .i64 1)) v_68 (.int .i64 1)) h69) call fun v_70 h71 =>
arb (.val v_70 h71) call fun j_72 h73 =>
k .normal (upd (upd (upd t 41 v_68) 42 v_70) 8 j_72) h73

def J_precentorref23_Causal_8 (P : Program) (call : FuncId → List AVal → Heap → Res AVal) (fuel : Nat) (k : Kn (Ex × T)) (t : T) (h : Heap) : Res (Ex × T) :=
lt (sqK (J_precentorref23_Causal_9 P call fuel k) k) fun k74 =>
lt (blkK 5 k74) fun k75 =>
arb (.val (t 7) h) call fun v_76 h77 =>
arb (.val (t 5) h77) call fun v_78 h79 =>
arb (.val (t 8) h79) call fun v_80 h81 =>
arb (.of (ixsR 2 v_78 v_80) h81) call fun v_82 h83 =>
arb (.of (ldn 2 h83 v_82) h83) call fun v_84 h85 =>
arb (.call F_precentorref23_at [v_76, v_84] h85) call fun v_86 h87 =>
arb (.of (aBin P .geq 3 (.tmp 48) (.const (.int .i64 0)) v_86 (.int .i64 0)) h87) call fun v_88 h89 =>
cb v_88 (
arb (.val (.bool false) h89) call fun v_90 h91 =>
k75 .ret (upd (upd (upd (upd (upd (upd (upd (upd t 43 v_76) 44 v_78) 45 v_80) 46 v_82) 47 v_84) 48 v_86) 49 v_88) 2 v_90) h91) (
k75 .normal (upd (upd (upd (upd (upd (upd (upd t 43 v_76) 44 v_78) 45 v_80) 46 v_82) 47 v_84) 48 v_86) 49 v_88) h89)

def L_precentorref23_Causal_7 (P : Program) (call : FuncId → List AVal → Heap → Res AVal) (fuel : Nat) (t : T) (h : Heap) : Res (Ex × T) :=
lt okK fun k =>
lt (sqK (J_precentorref23_Causal_8 P call fuel k) k) fun k92 =>
arb (.val (t 8) h) call fun v_93 h94 =>
arb (.val (t 5) h94) call fun v_95 h96 =>
arb (.of (lenL v_95) h96) call fun v_97 h98 =>
arb (.of (aBin P .lss 3 (.tmp 37) (.tmp 39) v_93 v_97) h98) call fun v_99 h100 =>
cb v_99 (
k92 .normal (upd (upd (upd (upd t 37 v_93) 38 v_95) 39 v_97) 40 v_99) h100) (
k92 (.exit 4) (upd (upd (upd (upd t 37 v_93) 38 v_95) 39 v_97) 40 v_99) h100)

def J_precentorref23_Causal_5 (P : Program) (call : FuncId → List AVal → Heap → Res AVal) (fuel : Nat) (k : Kn (Ex × T)) (t : T) (h : Heap) : Res (Ex × T) :=
lt (sqK (J_precentorref23_Causal_6 P call fuel k) k) fun k45 =>
lt (blkK 3 k45) fun k46 =>
arb (.val (t 0) h) call fun v_47 h48 =>
arb (.val (t 5) h48) call fun v_49 h50 =>
arb (.val (t 6) h50) call fun v_51 h52 =>
arb (.of (ixsR 2 v_49 v_51) h52) call fun v_53 h54 =>
arb (.of (ldn 2 h54 v_53) h54) call fun v_55 h56 =>
arb (.call F_precentorref23_Causes [v_47, v_55] h56) call fun v_57 h58 =>
arb (.val v_57 h58) call fun c_59 h60 =>
arb (.val (t 6) h60) call fun v_61 h62 =>
arb (.of (aBin P .add 3 (.tmp 35) (.const (.int .i64 1)) v_61 (.int .i64 1)) h62) call fun v_63 h64 =>
arb (.val v_63 h64) call fun j_65 h66 =>
lt (blkK 4 k46) fun k67 =>
(loopN (L_precentorref23_Causal_7 P call fuel) fuel (upd (upd (upd (upd (upd (upd (upd (upd (upd (upd t 29 v_47) 30 v_49) 31 v_51) 32 v_53) 33 v_55) 34 v_57) 7 c_59) 35 v_61) 36 v_63) 8 j_65) h66).bind (lpK k67)

def L_precentorref23_Causal_4 (P : Program) (call : FuncId → List AVal → Heap → Res AVal) (fuel : Nat) (t : T) (h : Heap) : Res (Ex × T) :=
lt okK fun k =>
lt (sqK (J_precentorref23_Causal_5 P call fuel k) k) fun k101 =>
arb (.val (t 6) h) call fun v_102 h103 =>
arb (.val (t 5) h103) call fun v_104 h105 =>
arb (.of (lenL v_104) h105) call fun v_106 h107 =>
arb (.of (aBin P .lss 3 (.tmp 23) (.tmp 25) v_102 v_106) h107) call fun v_108 h109 =>
cb v_108 (
k101 .normal (upd (upd (upd (upd t 23 v_102) 24 v_104) 25 v_106) 26 v_108) h109) (
k101 (.exit 2) (upd (upd (upd (upd t 23 v_102) 24 v_104) 25 v_106) 26 v_108) h109)

def J_precentorref23_Causal_2 (P : Program) (call : FuncId → List AVal → Heap → Res AVal) (fuel : Nat) (k : Kn (Ex × T)) (t : T) (h : Heap) : Res (Ex × T) :=
lt (sqK (J_precentorref23_Causal_3 P call fuel k) k) fun k20 =>
lt (blkK 1 k20) fun k21 =>
arb (.val (t 0) h) call fun v_22 h23 =>
arb (.val (t 3) h23) call fun v_24 h25 =>
arb (.val (t 4) h25) call fun v_26 h27 =>
arb (.of (ixsR 1 v_24 v_26) h27) call fun v_28 h29 =>
arb (.of (ld1 h29 v_28) h29) call fun v_30 h31 =>
arb (.call F_precentorref23_first [v_22, v_30] h31) call fun v_32 h33 =>
arb (.val v_32 h33) call fun log_34 h35 =>
arb (.val (.int .i64 0) h35) call fun k_36 h37 =>
lt (blkK 2 k21) fun k38 =>
(loopN (L_precentorref23_Causal_4 P call fuel) fuel (upd (upd (upd (upd (upd (upd (upd (upd t 17 v_22) 18 v_24) 19 v_26) 20 v_28) 21 v_30) 22 v_32) 5 log_34) 6 k_36) h37).bind (lpK k38)

def L_precentorref23_Causal_1 (P : Program) (call : FuncId → List AVal → Heap → Res AVal) (fuel : Nat) (t : T) (h : Heap) : Res (Ex × T) :=
lt okK fun k =>
lt (sqK (J_precentorref23_Causal_2 P call fuel k) k) fun k110 =>
arb (.val (t 4) h) call fun v_111 h112 =>
arb (.val (t 3) h112) call fun v_113 h114 =>
arb (.of (lenL v_113) h114) call fun v_115 h116 =>
arb (.of (aBin P .lss 3 (.tmp 11) (.tmp 13) v_111 v_115) h116) call fun v_117 h118 =>
cb v_117 (
k110 .normal (upd (upd (upd (upd t 11 v_111) 12 v_113) 13 v_115) 14 v_117) h118) (
k110 (.exit 0) (upd (upd (upd (upd t 11 v_111) 12 v_113) 13 v_115) 14 v_117) h118)

def S_precentorref23_Causal (P : Program) (call : FuncId → List AVal → Heap → Res AVal) (fuel : Nat) (l_a0 : AVal) (h : Heap) : Res AVal :=
lt (retK P [.tmp 2]) fun k =>
arb (.val (.bool false) h) call fun v_0 h1 =>
arb (.val l_a0 h1) call fun v_2 h3 =>
arb (.call F_precentorref23_clients [v_2] h3) call fun v_4 h5 =>
arb (.val v_4 h5) call fun who_6 h7 =>
lt (sqK (J_precentorref23_Causal_0 P call fuel k) k) fun k10 =>
arb (.val (.int .i64 0) h7) call fun i_11 h12 =>
lt (blkK 0 k10) fun k13 =>
(loopN (L_precentorref23_Causal_1 P call fuel) fuel (upd (upd (upd (upd (upd (enterT [l_a0]) 2 v_0) 9 v_2) 10 v_4) 3 who_6) 4 i_11) h12).bind (lpK k13)
theorem E_precentorref23_Causal (call : FuncId → List AVal → Heap → Res AVal) (fuel : Nat) (l_a0 : AVal) (h : Heap) : bodyR Try.prog call fuel Try.f25 [l_a0] h = S_precentorref23_Causal Try.prog call fuel l_a0 h := by kernel_rfl
theorem R_precentorref23_Causal {X : XTab} (l_a0 : AVal) {h : Heap} {Q : AVal → Heap → Prop} (hx : X F_precentorref23_Causal [l_a0] = none) (q : Tells (fun m => S_precentorref23_Causal Try.prog (acallX Try.prog X m) m l_a0 h) Q) :
    Tells (fun m => acallX Try.prog X m F_precentorref23_Causal [l_a0] h) Q :=
  Tells.later (q.le fun m => (E_precentorref23_Causal (acallX Try.prog X m) m l_a0 h) ▸ acallX_le Try.func25 hx m h)

/-! ### precentor/precentorref23.clients -/
def J_precentorref23_clients_0 (P : Program) (call : FuncId → List AVal → Heap → Res AVal) (fuel : Nat) (k : Kn (AVal)) (t : T) (h : Heap) : Res (AVal) :=
arb (.val (t 3) h) call fun v_4 h5 =>
arb (.val v_4 h5) call fun v_6 h7 =>
k .ret (upd (upd t 47 v_4) 2 v_6) h7

def J_precentorref23_clients_3 (P : Program) (call : FuncId → List AVal → Heap → Res AVal) (fuel : Nat) (k : Kn (Ex × T)) (t : T) (h : Heap) : Res (Ex × T) :=
arb (.val (t 4) h) call fun v_12 h13 =>
arb (.of (aBin P .add 3 (.tmp 11) (.const (.int .i64 1)) v_12 (.int .i64 1)) h13) call fun v_14 h15 =>
arb (.val v_14 h15) call fun i_16 h17 =>
k .normal (upd (upd (upd t 11 v_12) 12 v_14) 4 i_16) h17

def J_precentorref23_clients_4 (P : Program) (call : FuncId → List AVal → Heap → Res AVal) (fuel : Nat) (k : Kn (Ex × T)) (t : T) (h : Heap) : Res (Ex × T) :=
arb (.val (t 5) h) call fun v_32 h33 =>
arb (.of (aUn P .not v_32) h33) call fun v_34 h35 =>
cb v_34 (
arb (.val (t 3) h35) call fun v_36 h37 =>
arb (.val (t 0) h37) call fun v_38 h39 =>
arb (.val (t 4) h39) call fun v_40 h41 =>
arb (.of (ixsR 4 v_38 v_40) h41) call fun v_42 h43 =>
arb (.of (fadR 1 v_42) h43) call fun v_44 h45 =>
arb (.of (ld1 h45 v_44) h45) call fun v_46 h47 =>
arb (bslR 1 [(.int .i64 0)] 1 h47 [(0, 1, v_46)]) call fun v_48 h49 =>
arb (appR 1 8 h49 v_36 v_48) call fun v_50 h51 =>
arb (.val v_50 h51) call fun out_52 h53 =>
k .normal (upd (upd (upd (upd (upd (upd (upd (upd (upd (upd (upd t 37 v_32) 38 v_34) 39 v_36) 40 v_38) 41 v_40) 42 v_42) 43 v_44) 44 v_46) 45 v_48) 46 v_50) 3 out_52) h53) (
k .normal (upd (upd t 37 v_32) 38 v_34) h35)

def J_precentorref23_clients_7 (P : Program) (call : FuncId → List AVal → Heap → Res AVal) (fuel : Nat) (k : Kn (Ex × T)) (t : T) (h : Heap) : Res (Ex × T) :=
arb (.val (t 6) h) call fun v_58 h59 =>
arb (.of (aBin P .add 3 (.tmp 22) (.const (.int .i64 1)) v_58 (.int .i64 1)) h59) call fun v_60 h61 =>
arb (.val v_60 h61) call fun k_62 h63 =>
k .normal (upd (upd (upd t 22 v_58) 23 v_60) 6 k_62) h63

def J_precentorref23_clients_6 (P : Program) (call : FuncId → List AVal → Heap → Res AVal) (fuel : Nat) (k : Kn (Ex × T)) (t : T) (h : Heap) : Res (Ex × T) :=
lt (sqK (J_precentorref23_clients_7 P call fuel k) k) fun k64 =>
lt (blkK 3 k64) fun k65 =>
obv (.val (t 5) h) fun v_66 =>
obv (.val v_66 h) fun v_67 =>
gd (wantB v_67 false) (fun c => obv (.val (t 3) h) fun v => c v h) h fun v_68 h69 =>
gd (wantB v_67 false) (fun c => obv (.val (t 6) h69) fun v => c v h69) h69 fun v_70 h71 =>
gd (wantB v_67 false) (fun c => obv (.of (ixsR 1 v_68 v_70) h71) fun v => c v h71) h71 fun v_72 h73 =>
gd (wantB v_67 false) (fun c => obv (.of (ld1 h73 v_72) h73) fun v => c v h73) h73 fun v_74 h75 =>
gd (wantB v_67 false) (fun c => obv (.val (t 0) h75) fun v => c v h75) h75 fun v_76 h77 =>
gd (wantB v_67 false) (fun c => obv (.val (t 4) h77) fun v => c v h77) h77 fun v_78 h79 =>
gd (wantB v_67 false) (fun c => obv (.of (ixsR 4 v_76 v_78) h79) fun v => c v h79) h79 fun v_80 h81 =>
gd (wantB v_67 false) (fun c => obv (.of (fadR 1 v_80) h81) fun v => c v h81) h81 fun v_82 h83 =>
gd (wantB v_67 false) (fun c => obv (.of (ld1 h83 v_82) h83) fun v => c v h83) h83 fun v_84 h85 =>
gd (wantB v_67 false) (fun c => obv (.of (aBin P .eql 3 (.tmp 29) (.tmp 34) v_74 v_84) h85) fun v => c v h85) h85 fun v_86 h87 =>
obv (pkR v_67 (.bool true) v_86 h87) fun v_88 =>
obv (.val v_88 h87) fun in_89 =>
k65 .normal (upd (upd (upd (upd (upd (upd (upd (upd (upd (upd (upd (upd (upd (upd t 24 v_66) 25 v_67) 26 v_68) 27 v_70) 28 v_72) 29 v_74) 30 v_76) 31 v_78) 32 v_80) 33 v_82) 34 v_84) 35 v_86) 36 v_88) 5 in_89) h87

def L_precentorref23_clients_5 (P : Program) (call : FuncId → List AVal → Heap → Res AVal) (fuel : Nat) (t : T) (h : Heap) : Res (Ex × T) :=
lt okK fun k =>
lt (sqK (J_precentorref23_clients_6 P call fuel k) k) fun k90 =>
arb (.val (t 6) h) call fun v_91 h92 =>
arb (.val (t 3) h92) call fun v_93 h94 =>
arb (.of (lenL v_93) h94) call fun v_95 h96 =>
arb (.of (aBin P .lss 3 (.tmp 18) (.tmp 20) v_91 v_95) h96) call fun v_97 h98 =>
cb v_97 (
k90 .normal (upd (upd (upd (upd t 18 v_91) 19 v_93) 20 v_95) 21 v_97) h98) (
k90 (.exit 2) (upd (upd (upd (upd t 18 v_91) 19 v_93) 20 v_95) 21 v_97) h98)

def J_precentorref23_clients_2 (P : Program) (call : FuncId → List AVal → Heap → Res AVal) (fuel : Nat) (k : Kn (Ex × T)) (t : T) (h : Heap) : Res (Ex × T) :=
lt (sqK (J_precentorref23_clients_3 P call fuel k) k) fun k18 =>
lt (blkK 1 k18) fun k19 =>
arb (.val (t 0) h) call fun v_20 h21 =>
arb (.val (t 4) h21) call fun v_22 h23 =>
arb (.of (ixsR 4 v_20 v_22) h23) call fun v_24 h25 =>
arb (.of (fadR 0 v_24) h25) call fun v_26 h27 =>
arb (.of (ld1 h27 v_26) h27) call fun v_28 h29 =>
arb (.val v_28 h29) call fun in_30 h31 =>
lt (sqK (J_precentorref23_clients_4 P call fuel k19) k19) fun k54 =>
arb (.val (.int .i64 0) h31) call fun k_55 h56 =>
lt (blkK 2 k54) fun k57 =>
(loopN (L_precentorref23_clients_5 P call fuel) fuel (upd (upd (upd (upd (upd (upd (upd t 13 v_20) 14 v_22) 15 v_24) 16 v_26) 17 v_28) 5 in_30) 6 k_55) h56).bind (lpK k57)

def L_precentorref23_clients_1 (P : Program) (call : FuncId → List AVal → Heap → Res AVal) (fuel : Nat) (t : T) (h : Heap) : Res (Ex × T) :=
lt okK fun k =>
lt (sqK (J_precentorref23_clients_2 P call fuel k) k) fun k99 =>
arb (.val (t 4) h) call fun v_100 h101 =>
arb (.val (t 0) h101) call fun v_102 h103 =>
arb (.of (lenL v_102) h103) call fun v_104 h105 =>
arb (.of (aBin P .lss 3 (.tmp 7) (.tmp 9) v_100 v_104) h105) call fun v_106 h107 =>
cb v_106 (
k99 .normal (upd (upd (upd (upd t 7 v_100) 8 v_102) 9 v_104) 10 v_106) h107) (
k99 (.exit 0) (upd (upd (upd (upd t 7 v_100) 8 v_102) 9 v_104) 10 v_106) h107)

def S_precentorref23_clients (P : Program) (call : FuncId → List AVal → Heap → Res AVal) (fuel : Nat) (l_a0 : AVal) (h : Heap) : Res AVal :=
lt (retK P [.tmp 2]) fun k =>
arb (.val .nils h) call fun v_0 h1 =>
arb (.val .nils h1) call fun out_2 h3 =>
lt (sqK (J_precentorref23_clients_0 P call fuel k) k) fun k8 =>
arb (.val (.int .i64 0) h3) call fun i_9 h10 =>
lt (blkK 0 k8) fun k11 =>
(loopN (L_precentorref23_clients_1 P call fuel) fuel (upd (upd (upd (enterT [l_a0]) 2 v_0) 3 out_2) 4 i_9) h10).bind (lpK k11)
theorem E_precentorref23_clients (call : FuncId → List AVal → Heap → Res AVal) (fuel : Nat) (l_a0 : AVal) (h : Heap) : bodyR Try.prog call fuel Try.f32 [l_a0] h = S_precentorref23_clients Try.prog call fuel l_a0 h := by kernel_rfl
theorem R_precentorref23_clients {X : XTab} (l_a0 : AVal) {h : Heap} {Q : AVal → Heap → Prop} (hx : X F_precentorref23_clients [l_a0] = none) (q : Tells (fun m => S_precentorref23_clients Try.prog (acallX Try.prog X m) m l_a0 h) Q) :
    Tells (fun m => acallX Try.prog X m F_precentorref23_clients [l_a0] h) Q :=
  Tells.later (q.le fun m => (E_precentorref23_clients (acallX Try.prog X m) m l_a0 h) ▸ acallX_le Try.func32 hx m h)

/-! ### precentor/precentorref23.first -/
def J_precentorref23_first_0 (P : Program) (call : FuncId → List AVal → Heap → Res AVal) (fuel : Nat) (k : Kn (AVal)) (t : T) (h : Heap) : Res (AVal) :=
arb (.val (t 5) h) call fun v_12 h13 =>
arb (.val v_12 h13) call fun v_14 h15 =>
k .ret (upd (upd t 31 v_12) 4 v_14) h15

def J_precentorref23_first_3 (P : Program) (call : FuncId → List AVal → Heap → Res AVal) (fuel : Nat) (k : Kn (Ex × T)) (t : T) (h : Heap) : Res (Ex × T) :=
arb (.val (t 7) h) call fun v_20 h21 =>
arb (.of (aBin P .add 3 (.tmp 15) (.const (.int .i64 1)) v_20 (.int .i64 1)) h21) call fun v_22 h23 =>
arb (.val v_22 h23) call fun i_24 h25 =>
k .normal (upd (upd (upd t 15 v_20) 16 v_22) 7 i_24) h25

def J_precentorref23_first_2 (P : Program) (call : FuncId → List AVal → Heap → Res AVal) (fuel : Nat) (k : Kn (Ex × T)) (t : T) (h : Heap) : Res (Ex × T) :=
lt (sqK (J_precentorref23_first_3 P call fuel k) k) fun k26 =>
lt (blkK 1 k26) fun k27 =>
arb (.val (t 5) h) call fun v_28 h29 =>
arb (.val (t 6) h29) call fun v_30 h31 =>
arb (.val (t 7) h31) call fun v_32 h33 =>
arb (.of (ixsR 2 v_30 v_32) h33) call fun v_34 h35 =>
arb (.of (ldn 2 h35 v_34) h35) call fun v_36 h37 =>
arb (.call F_precentorref23_at [v_28, v_36] h37) call fun v_38 h39 =>
arb (.of (aBin P .lss 3 (.tmp 22) (.const (.int .i64 0)) v_38 (.int .i64 0)) h39) call fun v_40 h41 =>
cb v_40 (
arb (.val (t 5) h41) call fun v_42 h43 =>
arb (.val (t 6) h43) call fun v_44 h45 =>
arb (.val (t 7) h45) call fun v_46 h47 =>
arb (.of (ixsR 2 v_44 v_46) h47) call fun v_48 h49 =>
arb (.of (ldn 2 h49 v_48) h49) call fun v_50 h51 =>
arb (bslR 2 [(.int .i64 0), (.int .i64 0)] 1 h51 [(0, 2, v_50)]) call fun v_52 h53 =>
arb (appR 2 16 h53 v_42 v_52) call fun v_54 h55 =>
arb (.val v_54 h55) call fun out_56 h57 =>
k27 .normal (upd (upd (upd (upd (upd (upd (upd (upd (upd (upd (upd (upd (upd (upd (upd t 17 v_28) 18 v_30) 19 v_32) 20 v_34) 21 v_36) 22 v_38) 23 v_40) 24 v_42) 25 v_44) 26 v_46) 27 v_48) 28 v_50) 29 v_52) 30 v_54) 5 out_56) h57) (
k27 .normal (upd (upd (upd (upd (upd (upd (upd t 17 v_28) 18 v_30) 19 v_32) 20 v_34) 21 v_36) 22 v_38) 23 v_40) h41)

def L_precentorref23_first_1 (P : Program) (call : FuncId → List AVal → Heap → Res AVal) (fuel : Nat) (t : T) (h : Heap) : Res (Ex × T) :=
lt okK fun k =>
lt (sqK (J_precentorref23_first_2 P call fuel k) k) fun k58 =>
arb (.val (t 7) h) call fun v_59 h60 =>
arb (.val (t 6) h60) call fun v_61 h62 =>
arb (.of (lenL v_61) h62) call fun v_63 h64 =>
arb (.of (aBin P .lss 3 (.tmp 11) (.tmp 13) v_59 v_63) h64) call fun v_65 h66 =>
cb v_65 (
k58 .normal (upd (upd (upd (upd t 11 v_59) 12 v_61) 13 v_63) 14 v_65) h66) (
k58 (.exit 0) (upd (upd (upd (upd t 11 v_59) 12 v_61) 13 v_63) 14 v_65) h66)

def S_precentorref23_first (P : Program) (call : FuncId → List AVal → Heap → Res AVal) (fuel : Nat) (l_a0 client_a1 : AVal) (h : Heap) : Res AVal :=
lt (retK P [.tmp 4]) fun k =>
arb (.val .nils h) call fun v_0 h1 =>
arb (.val .nils h1) call fun out_2 h3 =>
arb (.val l_a0 h3) call fun v_4 h5 =>
arb (.val client_a1 h5) call fun v_6 h7 =>
arb (.call F_precentorref23_Heard [v_4, v_6] h7) call fun v_8 h9 =>
arb (.val v_8 h9) call fun h_10 h11 =>
lt (sqK (J_precentorref23_first_0 P call fuel k) k) fun k16 =>
arb (.val (.int .i64 0) h11) call fun i_17 h18 =>
lt (blkK 0 k16) fun k19 =>
(loopN (L_precentorref23_first_1 P call fuel) fuel (upd (upd (upd (upd (upd (upd (upd (enterT [l_a0, client_a1]) 4 v_0) 5 out_2) 8 v_4) 9 v_6) 10 v_8) 6 h_10) 7 i_17) h18).bind (lpK k19)
theorem E_precentorref23_first (call : FuncId → List AVal → Heap → Res AVal) (fuel : Nat) (l_a0 client_a1 : AVal) (h : Heap) : bodyR Try.prog call fuel Try.f33 [l_a0, client_a1] h = S_precentorref23_first Try.prog call fuel l_a0 client_a1 h := by kernel_rfl
theorem R_precentorref23_first {X : XTab} (l_a0 client_a1 : AVal) {h : Heap} {Q : AVal → Heap → Prop} (hx : X F_precentorref23_first [l_a0, client_a1] = none) (q : Tells (fun m => S_precentorref23_first Try.prog (acallX Try.prog X m) m l_a0 client_a1 h) Q) :
    Tells (fun m => acallX Try.prog X m F_precentorref23_first [l_a0, client_a1] h) Q :=
  Tells.later (q.le fun m => (E_precentorref23_first (acallX Try.prog X m) m l_a0 client_a1 h) ▸ acallX_le Try.func33 hx m h)

/-! ### precentor/precentorref23.put -/
def J_precentorref23_put_2 (P : Program) (call : FuncId → List AVal → Heap → Res AVal) (fuel : Nat) (k : Kn (AVal)) (t : T) (h : Heap) : Res (AVal) :=
arb (.val (t 5) h) call fun v_8 h9 =>
arb (.val v_8 h9) call fun v_10 h11 =>
k .ret (upd (upd t 46 v_8) 4 v_10) h11

def J_precentorref23_put_1 (P : Program) (call : FuncId → List AVal → Heap → Res AVal) (fuel : Nat) (k : Kn (AVal)) (t : T) (h : Heap) : Res (AVal) :=
lt (sqK (J_precentorref23_put_2 P call fuel k) k) fun k12 =>
arb (.val (t 6) h) call fun v_13 h14 =>
arb (.of (aUn P .not v_13) h14) call fun v_15 h16 =>
cb v_15 (
arb (.val (t 5) h16) call fun v_17 h18 =>
arb (.of (ldn 2 h18 (t 3)) h18) call fun v_19 h20 =>
arb (bslR 2 [(.int .i64 0), (.int .i64 0)] 1 h20 [(0, 2, v_19)]) call fun v_21 h22 =>
arb (appR 2 16 h22 v_17 v_21) call fun v_23 h24 =>
arb (.val v_23 h24) call fun out_25 h26 =>
k12 .normal (upd (upd (upd (upd (upd (upd (upd t 40 v_13) 41 v_15) 42 v_17) 43 v_19) 44 v_21) 45 v_23) 5 out_25) h26) (
k12 .normal (upd (upd t 40 v_13) 41 v_15) h16)

def J_precentorref23_put_5 (P : Program) (call : FuncId → List AVal → Heap → Res AVal) (fuel : Nat) (k : Kn (Ex × T)) (t : T) (h : Heap) : Res (Ex × T) :=
arb (.val (t 7) h) call fun v_31 h32 =>
arb (.of (aBin P .add 3 (.tmp 17) (.const (.int .i64 1)) v_31 (.int .i64 1)) h32) call fun v_33 h34 =>
arb (.val v_33 h34) call fun i_35 h36 =>
k .normal (upd (upd (upd t 17 v_31) 18 v_33) 7 i_35) h36

def J_precentorref23_put_6 (P : Program) (call : FuncId → List AVal → Heap → Res AVal) (fuel : Nat) (k : Kn (Ex × T)) (t : T) (h : Heap) : Res (Ex × T) :=
arb (.val (t 5) h) call fun v_39 h40 =>
arb (.val (t 0) h40) call fun v_41 h42 =>
arb (.val (t 7) h42) call fun v_43 h44 =>
arb (.of (ixsR 2 v_41 v_43) h44) call fun v_45 h46 =>
arb (.of (ldn 2 h46 v_45) h46) call fun v_47 h48 =>
arb (bslR 2 [(.int .i64 0), (.int .i64 0)] 1 h48 [(0, 2, v_47)]) call fun v_49 h50 =>
arb (appR 2 16 h50 v_39 v_49) call fun v_51 h52 =>
arb (.val v_51 h52) call fun out_53 h54 =>
k .normal (upd (upd (upd (upd (upd (upd (upd (upd t 33 v_39) 34 v_41) 35 v_43) 36 v_45) 37 v_47) 38 v_49) 39 v_51) 5 out_53) h54

def J_precentorref23_put_4 (P : Program) (call : FuncId → List AVal → Heap → Res AVal) (fuel : Nat) (k : Kn (Ex × T)) (t : T) (h : Heap) : Res (Ex × T) :=
lt (sqK (J_precentorref23_put_5 P call fuel k) k) fun k37 =>
lt (blkK 1 k37) fun k38 =>
lt (sqK (J_precentorref23_put_6 P call fuel k38) k38) fun k55 =>
obv (.val (t 6) h) fun v_56 =>
obv (.of (aUn P .not v_56) h) fun v_58 =>
obv (.val v_58 h) fun v_60 =>
gdr (wantB v_60 true) (fun c => obv (.of (ldn 2 h (t 3)) h) fun v_62 => ifb true <|
c true v_62 h) h fun w64 v_62 h64 =>
gdr (wantB v_60 true) (fun c => obv (.val (t 0) h64) fun v_65 =>
c true v_65 h64) h64 fun w67 v_65 h67 =>
gdr (wantB v_60 true) (fun c => obv (.val (t 7) h67) fun v_68 =>
c true v_68 h67) h67 fun w70 v_68 h70 =>
gdr (wantB v_60 true) (fun c => obv (.of (ixsR 2 v_65 v_68) h70) fun v_71 =>
c true v_71 h70) h70 fun w73 v_71 h73 =>
gdr (wantB v_60 true) (fun c => obv (.of (ldn 2 h73 v_71) h73) fun v_74 => ifb true <|
c true v_74 h73) h73 fun w76 v_74 h76 =>
gdr (wantB v_60 true) (fun c => arbE (.call F_precentorref23_less [v_62, v_74] h76) call fun v_77 h78 => lt h78 fun g78 => ifb (true && true) <|
c true v_77 g78) h76 fun w79 v_77 h79 =>
obv (pkR v_60 v_77 (.bool false) h79) fun v_80 =>
cb v_80 (
arb (.val (.bool true) h79) call fun in_82 h83 =>
arb (.val (t 5) h83) call fun v_84 h85 =>
arb (.of (ldn 2 h85 (t 3)) h85) call fun v_86 h87 =>
arb (bslR 2 [(.int .i64 0), (.int .i64 0)] 1 h87 [(0, 2, v_86)]) call fun v_88 h89 =>
arb (appR 2 16 h89 v_84 v_88) call fun v_90 h91 =>
arb (.val v_90 h91) call fun out_92 h93 =>
k55 .normal (upd (upd (upd (upd (upd (upd (upd (upd (upd (upd (upd (upd (upd (upd (upd (upd t 19 v_56) 20 v_58) 21 v_60) 22 v_62) 23 v_65) 24 v_68) 25 v_71) 26 v_74) 27 v_77) 28 v_80) 6 in_82) 29 v_84) 30 v_86) 31 v_88) 32 v_90) 5 out_92) h93) (
k55 .normal (upd (upd (upd (upd (upd (upd (upd (upd (upd (upd t 19 v_56) 20 v_58) 21 v_60) 22 v_62) 23 v_65) 24 v_68) 25 v_71) 26 v_74) 27 v_77) 28 v_80) h79)

def L_precentorref23_put_3 (P : Program) (call : FuncId → List AVal → Heap → Res AVal) (fuel : Nat) (t : T) (h : Heap) : Res (Ex × T) :=
lt okK fun k =>
lt (sqK (J_precentorref23_put_4 P call fuel k) k) fun k94 =>
arb (.val (t 7) h) call fun v_95 h96 =>
arb (.val (t 0) h96) call fun v_97 h98 =>
arb (.of (lenL v_97) h98) call fun v_99 h100 =>
arb (.of (aBin P .lss 3 (.tmp 13) (.tmp 15) v_95 v_99) h100) call fun v_101 h102 =>
cb v_101 (
k94 .normal (upd (upd (upd (upd t 13 v_95) 14 v_97) 15 v_99) 16 v_101) h102) (
k94 (.exit 0) (upd (upd (upd (upd t 13 v_95) 14 v_97) 15 v_99) 16 v_101) h102)

def J_precentorref23_put_0 (P : Program) (call : FuncId → List AVal → Heap → Res AVal) (fuel : Nat) (k : Kn (AVal)) (t : T) (h : Heap) : Res (AVal) :=
arb (.val .nils h) call fun out_4 h5 =>
arb (.val (.bool false) h5) call fun in_6 h7 =>
lt (sqK (J_precentorref23_put_1 P call fuel k) k) fun k27 =>
arb (.val (.int .i64 0) h7) call fun i_28 h29 =>
lt (blkK 0 k27) fun k30 =>
(loopN (L_precentorref23_put_3 P call fuel) fuel (upd (upd (upd t 5 out_4) 6 in_6) 7 i_28) h29).bind (lpK k30)

def S_precentorref23_put (P : Program) (call : FuncId → List AVal → Heap → Res AVal) (fuel : Nat) (l_a0 x_a1 : AVal) (h : Heap) : Res AVal :=
lt (retK P [.tmp 4]) fun k =>
arb (boxR x_a1 h) call fun x_0 h1 =>
arb (.val .nils h1) call fun v_2 h3 =>
lt (sqK (J_precentorref23_put_0 P call fuel k) k) fun k103 =>
arb (.val l_a0 h3) call fun v_104 h105 =>
arb (.of (ldn 2 h105 x_0) h105) call fun v_106 h107 =>
arb (.call F_precentorref23_at [v_104, v_106] h107) call fun v_108 h109 =>
arb (.of (aBin P .geq 3 (.tmp 10) (.const (.int .i64 0)) v_108 (.int .i64 0)) h109) call fun v_110 h111 =>
cb v_110 (
arb (.val l_a0 h111) call fun v_112 h113 =>
arb (.val v_112 h113) call fun v_114 h115 =>
k103 .ret (upd (upd (upd (upd (upd (upd (upd (upd (enterT [l_a0, x_a1]) 3 x_0) 4 v_2) 8 v_104) 9 v_106) 10 v_108) 11 v_110) 12 v_112) 4 v_114) h115) (
k103 .normal (upd (upd (upd (upd (upd (upd (enterT [l_a0, x_a1]) 3 x_0) 4 v_2) 8 v_104) 9 v_106) 10 v_108) 11 v_110) h111)
theorem E_precentorref23_put (call : FuncId → List AVal → Heap → Res AVal) (fuel : Nat) (l_a0 x_a1 : AVal) (h : Heap) : bodyR Try.prog call fuel Try.f34 [l_a0, x_a1] h = S_precentorref23_put Try.prog call fuel l_a0 x_a1 h := by kernel_rfl
theorem R_precentorref23_put {X : XTab} (l_a0 x_a1 : AVal) {h : Heap} {Q : AVal → Heap → Prop} (hx : X F_precentorref23_put [l_a0, x_a1] = none) (q : Tells (fun m => S_precentorref23_put Try.prog (acallX Try.prog X m) m l_a0 x_a1 h) Q) :
    Tells (fun m => acallX Try.prog X m F_precentorref23_put [l_a0, x_a1] h) Q :=
  Tells.later (q.le fun m => (E_precentorref23_put (acallX Try.prog X m) m l_a0 x_a1 h) ▸ acallX_le Try.func34 hx m h)

/-! ### precentor/precentorref23.at -/
def J_precentorref23_at_0 (P : Program) (call : FuncId → List AVal → Heap → Res AVal) (fuel : Nat) (k : Kn (AVal)) (t : T) (h : Heap) : Res (AVal) :=
arb (.val (.int .i64 (-1)) h) call fun v_4 h5 =>
k .ret (upd t 4 v_4) h5

def J_precentorref23_at_3 (P : Program) (call : FuncId → List AVal → Heap → Res AVal) (fuel : Nat) (k : Kn (Ex × T)) (t : T) (h : Heap) : Res (Ex × T) :=
arb (.val (t 5) h) call fun v_10 h11 =>
arb (.of (aBin P .add 3 (.tmp 10) (.const (.int .i64 1)) v_10 (.int .i64 1)) h11) call fun v_12 h13 =>
arb (.val v_12 h13) call fun i_14 h15 =>
k .normal (upd (upd (upd t 10 v_10) 11 v_12) 5 i_14) h15

def J_precentorref23_at_2 (P : Program) (call : FuncId → List AVal → Heap → Res AVal) (fuel : Nat) (k : Kn (Ex × T)) (t : T) (h : Heap) : Res (Ex × T) :=
lt (sqK (J_precentorref23_at_3 P call fuel k) k) fun k16 =>
lt (blkK 1 k16) fun k17 =>
obv (.val (t 0) h) fun v_18 =>
obv (.val (t 5) h) fun v_19 =>
obv (.of (ixsR 2 v_18 v_19) h) fun v_20 =>
obv (.of (ldn 2 h v_20) h) fun v_21 =>
obv (.of (ldn 2 h (t 3)) h) fun v_22 =>
obv (.of (aBin P .eql 30 (.tmp 15) (.tmp 16) v_21 v_22) h) fun v_23 =>
cb v_23 (
arb (.val (t 5) h) call fun v_24 h25 =>
arb (.val v_24 h25) call fun v_26 h27 =>
k17 .ret (upd (upd (upd (upd (upd (upd (upd (upd t 12 v_18) 13 v_19) 14 v_20) 15 v_21) 16 v_22) 17 v_23) 18 v_24) 4 v_26) h27) (
k17 .normal (upd (upd (upd (upd (upd (upd t 12 v_18) 13 v_19) 14 v_20) 15 v_21) 16 v_22) 17 v_23) h)

def L_precentorref23_at_1 (P : Program) (call : FuncId → List AVal → Heap → Res AVal) (fuel : Nat) (t : T) (h : Heap) : Res (Ex × T) :=
lt okK fun k =>
lt (sqK (J_precentorref23_at_2 P call fuel k) k) fun k28 =>
arb (.val (t 5) h) call fun v_29 h30 =>
arb (.val (t 0) h30) call fun v_31 h32 =>
arb (.of (lenL v_31) h32) call fun v_33 h34 =>
arb (.of (aBin P .lss 3 (.tmp 6) (.tmp 8) v_29 v_33) h34) call fun v_35 h36 =>
cb v_35 (
k28 .normal (upd (upd (upd (upd t 6 v_29) 7 v_31) 8 v_33) 9 v_35) h36) (
k28 (.exit 0) (upd (upd (upd (upd t 6 v_29) 7 v_31) 8 v_33) 9 v_35) h36)

def S_precentorref23_at (P : Program) (call : FuncId → List AVal → Heap → Res AVal) (fuel : Nat) (l_a0 x_a1 : AVal) (h : Heap) : Res AVal :=
lt (retK P [.tmp 4]) fun k =>
arb (boxR x_a1 h) call fun x_0 h1 =>
arb (.val (.int .i64 0) h1) call fun v_2 h3 =>
lt (sqK (J_precentorref23_at_0 P call fuel k) k) fun k6 =>
arb (.val (.int .i64 0) h3) call fun i_7 h8 =>
lt (blkK 0 k6) fun k9 =>
(loopN (L_precentorref23_at_1 P call fuel) fuel (upd (upd (upd (enterT [l_a0, x_a1]) 3 x_0) 4 v_2) 5 i_7) h8).bind (lpK k9)
theorem E_precentorref23_at (call : FuncId → List AVal → Heap → Res AVal) (fuel : Nat) (l_a0 x_a1 : AVal) (h : Heap) : bodyR Try.prog call fuel Try.f35 [l_a0, x_a1] h = S_precentorref23_at Try.prog call fuel l_a0 x_a1 h := by kernel_rfl
theorem R_precentorref23_at {X : XTab} (l_a0 x_a1 : AVal) {h : Heap} {Q : AVal → Heap → Prop} (hx : X F_precentorref23_at [l_a0, x_a1] = none) (q : Tells (fun m => S_precentorref23_at Try.prog (acallX Try.prog X m) m l_a0 x_a1 h) Q) :
    Tells (fun m => acallX Try.prog X m F_precentorref23_at [l_a0, x_a1] h) Q :=
  Tells.later (q.le fun m => (E_precentorref23_at (acallX Try.prog X m) m l_a0 x_a1 h) ▸ acallX_le Try.func35 hx m h)

/-! ### precentor/precentorref23.id -/
def J_precentorref23_id_0 (P : Program) (call : FuncId → List AVal → Heap → Res AVal) (fuel : Nat) (k : Kn (AVal)) (t : T) (h : Heap) : Res (AVal) :=
arb (.of (fadR 2 (t 1)) h) call fun v_4 h5 =>
arb (.of (ld1 h5 v_4) h5) call fun v_6 h7 =>
arb (.of (fadR 3 (t 1)) h7) call fun v_8 h9 =>
arb (.of (ld1 h9 v_8) h9) call fun v_10 h11 =>
arb (.of (bldR [(.int .i64 0), (.int .i64 0)] [(0, 1, v_6), (1, 1, v_10)]) h11) call fun v_12 h13 =>
arb (stR 2 h13 (t 2) v_12) call fun v_14 h15 =>
k .ret (upd (upd (upd (upd (upd t 10 v_4) 11 v_6) 12 v_8) 13 v_10) 14 v_12) h15

theorem C_precentorref23_id_0 (h : Heap) (a : AVal) : aLoad Try.prog h 30 a = ldn 2 h a := by kernel_rfl
def S_precentorref23_id (P : Program) (call : FuncId → List AVal → Heap → Res AVal) (fuel : Nat) (m_a0 : AVal) (h : Heap) : Res AVal :=
lt (retK P [.cell 2 30]) fun k =>
arb (boxR m_a0 h) call fun m_0 h1 =>
arb (newR [(.int .i64 0), (.int .i64 0)] h1) call fun v_2 h3 =>
lt (sqK (J_precentorref23_id_0 P call fuel k) k) fun k16 =>
arb (.of (fadR 0 m_0) h3) call fun v_17 h18 =>
arb (.of (ld1 h18 v_17) h18) call fun v_19 h20 =>
cb v_19 (
arb (.of (fadR 1 m_0) h20) call fun v_21 h22 =>
arb (.of (ld1 h22 v_21) h22) call fun v_23 h24 =>
arb (.of (fadR 3 m_0) h24) call fun v_25 h26 =>
arb (.of (ld1 h26 v_25) h26) call fun v_27 h28 =>
arb (.of (bldR [(.int .i64 0), (.int .i64 0)] [(0, 1, v_23), (1, 1, v_27)]) h28) call fun v_29 h30 =>
arb (stR 2 h30 v_2 v_29) call fun v_31 h32 =>
k16 .ret (upd (upd (upd (upd (upd (upd (upd (upd (upd (enterT [m_a0]) 1 m_0) 2 v_2) 3 v_17) 4 v_19) 5 v_21) 6 v_23) 7 v_25) 8 v_27) 9 v_29) h32) (
k16 .normal (upd (upd (upd (upd (enterT [m_a0]) 1 m_0) 2 v_2) 3 v_17) 4 v_19) h20)
theorem E_precentorref23_id (call : FuncId → List AVal → Heap → Res AVal) (fuel : Nat) (m_a0 : AVal) (h : Heap) : bodyR Try.prog call fuel Try.f36 [m_a0] h = S_precentorref23_id Try.prog call fuel m_a0 h := by kernel_rfl
theorem R_precentorref23_id {X : XTab} (m_a0 : AVal) {h : Heap} {Q : AVal → Heap → Prop} (hx : X F_precentorref23_id [m_a0] = none) (q : Tells (fun m => S_precentorref23_id Try.prog (acallX Try.prog X m) m m_a0 h) Q) :
    Tells (fun m => acallX Try.prog X m F_precentorref23_id [m_a0] h) Q :=
  Tells.later (q.le fun m => (E_precentorref23_id (acallX Try.prog X m) m m_a0 h) ▸ acallX_le Try.func36 hx m h)

/-! ### precentor/precentorref23.less -/

def S_precentorref23_less (P : Program) (call : FuncId → List AVal → Heap → Res AVal) (fuel : Nat) (a_a0 b_a1 : AVal) (h : Heap) : Res AVal :=
lt (retK P [.tmp 4]) fun k =>
arb (boxR a_a0 h) call fun a_0 h1 =>
arb (boxR b_a1 h1) call fun b_2 h3 =>
arb (.val (.bool false) h3) call fun v_4 h5 =>
arb (.of (fadR 0 a_0) h5) call fun v_6 h7 =>
arb (.of (ld1 h7 v_6) h7) call fun v_8 h9 =>
arb (.of (fadR 0 b_2) h9) call fun v_10 h11 =>
arb (.of (ld1 h11 v_10) h11) call fun v_12 h13 =>
arb (.of (aBin P .lss 3 (.tmp 6) (.tmp 8) v_8 v_12) h13) call fun v_14 h15 =>
arb (.val v_14 h15) call fun v_16 h17 =>
gd (wantB v_16 false) (fun c => arb (.of (fadR 0 a_0) h17) call c) h17 fun v_18 h19 =>
gd (wantB v_16 false) (fun c => arb (.of (ld1 h19 v_18) h19) call c) h19 fun v_20 h21 =>
gd (wantB v_16 false) (fun c => arb (.of (fadR 0 b_2) h21) call c) h21 fun v_22 h23 =>
gd (wantB v_16 false) (fun c => arb (.of (ld1 h23 v_22) h23) call c) h23 fun v_24 h25 =>
gd (wantB v_16 false) (fun c => arb (.of (aBin P .eql 3 (.tmp 12) (.tmp 14) v_20 v_24) h25) call c) h25 fun v_26 h27 =>
gd (wantB v_16 false) (fun c => arb (.val v_26 h27) call c) h27 fun v_28 h29 =>
gd (wantB v_28 true) (fun c => arb (.of (fadR 1 a_0) h29) call c) h29 fun v_30 h31 =>
gd (wantB v_28 true) (fun c => arb (.of (ld1 h31 v_30) h31) call c) h31 fun v_32 h33 =>
gd (wantB v_28 true) (fun c => arb (.of (fadR 1 b_2) h33) call c) h33 fun v_34 h35 =>
gd (wantB v_28 true) (fun c => arb (.of (ld1 h35 v_34) h35) call c) h35 fun v_36 h37 =>
gd (wantB v_28 true) (fun c => arb (.of (aBin P .lss 3 (.tmp 18) (.tmp 20) v_32 v_36) h37) call c) h37 fun v_38 h39 =>
gd (wantB v_16 false) (fun c => arb (pkR v_28 v_38 (.bool false) h39) call c) h39 fun v_40 h41 =>
arb (pkR v_16 (.bool true) v_40 h41) call fun v_42 h43 =>
arb (.val v_42 h43) call fun v_44 h45 =>
k .ret (upd (upd (upd (upd (upd (upd (upd (upd (upd (upd (upd (upd (upd (upd (upd (upd (upd (upd (upd (upd (upd (upd (upd (enterT [a_a0, b_a1]) 2 a_0) 3 b_2) 4 v_4) 5 v_6) 6 v_8) 7 v_10) 8 v_12) 9 v_14) 10 v_16) 11 v_18) 12 v_20) 13 v_22) 14 v_24) 15 v_26) 16 v_28) 17 v_30) 18 v_32) 19 v_34) 20 v_36) 21 v_38) 22 v_40) 23 v_42) 4 v_44) h45
theorem E_precentorref23_less (call : FuncId → List AVal → Heap → Res AVal) (fuel : Nat) (a_a0 b_a1 : AVal) (h : Heap) : bodyR Try.prog call fuel Try.f37 [a_a0, b_a1] h = S_precentorref23_less Try.prog call fuel a_a0 b_a1 h := by kernel_rfl
theorem R_precentorref23_less {X : XTab} (a_a0 b_a1 : AVal) {h : Heap} {Q : AVal → Heap → Prop} (hx : X F_precentorref23_less [a_a0, b_a1] = none) (q : Tells (fun m => S_precentorref23_less Try.prog (acallX Try.prog X m) m a_a0 b_a1 h) Q) :
    Tells (fun m => acallX Try.prog X m F_precentorref23_less [a_a0, b_a1] h) Q :=
  Tells.later (q.le fun m => (E_precentorref23_less (acallX Try.prog X m) m a_a0 b_a1 h) ▸ acallX_le Try.func37 hx m h)


end Go.Proofs.Ytochkdifpgelmaa
