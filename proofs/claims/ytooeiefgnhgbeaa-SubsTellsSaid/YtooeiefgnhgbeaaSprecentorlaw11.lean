/-
  Functions of precentorlaw11 in the form of YtooeiefgnhgbeaaABS (printed by a program of ours, gen.lean).
-/
import Derived.Test.YtooeiefgnhgbeaaSIds
set_option linter.unusedVariables false
namespace Go.Proofs.Ytooeiefgnhgbeaa
open Go.Ab
/-! ### precentor/precentorlaw11.SubsTells -/
def J_precentorlaw11_SubsTells_2 (P : Program) (call : FuncId → List AVal → Heap → Res AVal) (fuel : Nat) (k : Kn (AVal)) (t : T) (h : Heap) : Res (AVal) :=
obv (.val (t 9) h) fun v_76 =>
arbE (.call F_subs_Right [v_76] h) call fun v_78 h79 => lt h79 fun g79 => ifb (true && true) <|
obv (.val (t 9) g79) fun v_80 =>
arbE (.call F_precentorref9_RightSubs [v_80] g79) call fun v_82 h83 => lt h83 fun g83 => ifb (true && true) <|
obv (.of (aBin P .eql 4 (.tmp 76) (.tmp 78) v_78 v_82) g83) fun v_84 =>
obv (.val v_84 g83) fun v_86 =>
gdr (wantB v_86 true) (fun c => obv (.val (t 9) g83) fun v_88 =>
c true v_88 g83) g83 fun w90 v_88 h90 =>
gdr (wantB v_86 true) (fun c => obv (.val (t 10) h90) fun v_91 =>
c true v_91 h90) h90 fun w93 v_91 h93 =>
gdr (wantB v_86 true) (fun c => arbE (.call F_subs_Same [v_88, v_91] h93) call fun v_94 h95 => lt h95 fun g95 => ifb (true && true) <|
c true v_94 g95) h93 fun w96 v_94 h96 =>
gdr (wantB v_86 true) (fun c => obv (.val (t 9) h96) fun v_97 =>
c true v_97 h96) h96 fun w99 v_97 h99 =>
gdr (wantB v_86 true) (fun c => obv (.val (t 10) h99) fun v_100 =>
c true v_100 h99) h99 fun w102 v_100 h102 =>
gdr (wantB v_86 true) (fun c => arbE (.call F_precentorref1_SameSubs [v_97, v_100] h102) call fun v_103 h104 => lt h104 fun g104 => ifb (true && true) <|
c true v_103 g104) h102 fun w105 v_103 h105 =>
gdr (wantB v_86 true) (fun c => obv (.of (aBin P .eql 4 (.tmp 83) (.tmp 86) v_94 v_103) h105) fun v_106 =>
c true v_106 h105) h105 fun w108 v_106 h108 =>
obv (pkR v_86 v_106 (.bool false) h108) fun v_109 =>
obv (.val v_109 h108) fun v_111 =>
gdr (wantB v_111 true) (fun c => obv (.val (t 9) h108) fun v_113 =>
c true v_113 h108) h108 fun w115 v_113 h115 =>
gdr (wantB v_111 true) (fun c => obv (.val (t 11) h115) fun v_116 =>
c true v_116 h115) h115 fun w118 v_116 h118 =>
gdr (wantB v_111 true) (fun c => arbE (.call F_subs_Apply [v_113, v_116] h118) call fun v_119 h120 => lt h120 fun g120 => ifb (true && true) <|
c true v_119 g120) h118 fun w121 v_119 h121 =>
gdr (wantB v_111 true) (fun c => obv (.val (t 9) h121) fun v_122 =>
c true v_122 h121) h121 fun w124 v_122 h124 =>
gdr (wantB v_111 true) (fun c => obv (.val (t 11) h124) fun v_125 =>
c true v_125 h124) h124 fun w127 v_125 h127 =>
gdr (wantB v_111 true) (fun c => arbE (.call F_precentorref9_Apply [v_122, v_125] h127) call fun v_128 h129 => lt h129 fun g129 => ifb (true && true) <|
c true v_128 g129) h127 fun w130 v_128 h130 =>
gdr (wantB v_111 true) (fun c => arbE (.call F_precentorref1_SameSubs [v_119, v_128] h130) call fun v_131 h132 => lt h132 fun g132 => ifb (true && true) <|
c true v_131 g132) h130 fun w133 v_131 h133 =>
obv (pkR v_111 v_131 (.bool false) h133) fun v_134 =>
obv (.val v_134 h133) fun v_136 =>
gdr (wantB v_136 true) (fun c => obv (.val (t 9) h133) fun v_138 =>
c true v_138 h133) h133 fun w140 v_138 h140 =>
gdr (wantB v_136 true) (fun c => obv (.val (t 12) h140) fun v_141 =>
c true v_141 h140) h140 fun w143 v_141 h143 =>
gdr (wantB v_136 true) (fun c => obv (.of (ixsR 1 v_141 (.int .i64 0)) h143) fun v_144 =>
c true v_144 h143) h143 fun w146 v_144 h146 =>
gdr (wantB v_136 true) (fun c => obv (.of (ld1 h146 v_144) h146) fun v_147 => ifb true <|
c true v_147 h146) h146 fun w149 v_147 h149 =>
gdr (wantB v_136 true) (fun c => arbE (.call F_subs_Of [v_138, v_147] h149) call fun v_150 h151 => lt h151 fun g151 => ifb (true && true) <|
c true v_150 g151) h149 fun w152 v_150 h152 =>
gdr (wantB v_136 true) (fun c => obv (.val (t 9) h152) fun v_153 =>
c true v_153 h152) h152 fun w155 v_153 h155 =>
gdr (wantB v_136 true) (fun c => obv (.val (t 12) h155) fun v_156 =>
c true v_156 h155) h155 fun w158 v_156 h158 =>
gdr (wantB v_136 true) (fun c => obv (.of (ixsR 1 v_156 (.int .i64 0)) h158) fun v_159 =>
c true v_159 h158) h158 fun w161 v_159 h161 =>
gdr (wantB v_136 true) (fun c => obv (.of (ld1 h161 v_159) h161) fun v_162 => ifb ((!w152 || isV v_162 (arVal (.of (ld1 h149 v_159) h149))) && true) <|
c true v_162 h161) h161 fun w164 v_162 h164 =>
gdr (wantB v_136 true) (fun c => arbE (.call F_precentorref9_Of [v_153, v_162] h164) call fun v_165 h166 => lt h166 fun g166 => ifb (true && true) <|
c true v_165 g166) h164 fun w167 v_165 h167 =>
gdr (wantB v_136 true) (fun c => arbE (.call F_precentorref1_SameSubs [v_150, v_165] h167) call fun v_168 h169 => lt h169 fun g169 => ifb (true && true) <|
c true v_168 g169) h167 fun w170 v_168 h170 =>
obv (pkR v_136 v_168 (.bool false) h170) fun v_171 =>
obv (.val v_171 h170) fun v_173 =>
gdr (wantB v_173 true) (fun c => obv (.val (t 9) h170) fun v_175 =>
c true v_175 h170) h170 fun w177 v_175 h177 =>
gdr (wantB v_173 true) (fun c => obv (.val (t 12) h177) fun v_178 =>
c true v_178 h177) h177 fun w180 v_178 h180 =>
gdr (wantB v_173 true) (fun c => obv (.of (ixsR 1 v_178 (.int .i64 0)) h180) fun v_181 =>
c true v_181 h180) h180 fun w183 v_181 h183 =>
gdr (wantB v_173 true) (fun c => obv (.of (ld1 h183 v_181) h183) fun v_184 => ifb true <|
c true v_184 h183) h183 fun w186 v_184 h186 =>
gdr (wantB v_173 true) (fun c => obv (.val (t 13) h186) fun v_187 =>
c true v_187 h186) h186 fun w189 v_187 h189 =>
gdr (wantB v_173 true) (fun c => arbE (.call F_subs_Has [v_175, v_184, v_187] h189) call fun v_190 h191 => lt h191 fun g191 => ifb (true && true) <|
c true v_190 g191) h189 fun w192 v_190 h192 =>
gdr (wantB v_173 true) (fun c => obv (.val (t 9) h192) fun v_193 =>
c true v_193 h192) h192 fun w195 v_193 h195 =>
gdr (wantB v_173 true) (fun c => obv (.val (t 12) h195) fun v_196 =>
c true v_196 h195) h195 fun w198 v_196 h198 =>
gdr (wantB v_173 true) (fun c => obv (.of (ixsR 1 v_196 (.int .i64 0)) h198) fun v_199 =>
c true v_199 h198) h198 fun w201 v_199 h201 =>
gdr (wantB v_173 true) (fun c => obv (.of (ld1 h201 v_199) h201) fun v_202 => ifb ((!w192 || isV v_202 (arVal (.of (ld1 h189 v_199) h189))) && true) <|
c true v_202 h201) h201 fun w204 v_202 h204 =>
gdr (wantB v_173 true) (fun c => obv (.val (t 13) h204) fun v_205 =>
c true v_205 h204) h204 fun w207 v_205 h207 =>
gdr (wantB v_173 true) (fun c => arbE (.call F_precentorref9_Has [v_193, v_202, v_205] h207) call fun v_208 h209 => lt h209 fun g209 => ifb (true && true) <|
c true v_208 g209) h207 fun w210 v_208 h210 =>
gdr (wantB v_173 true) (fun c => obv (.of (aBin P .eql 4 (.tmp 117) (.tmp 123) v_190 v_208) h210) fun v_211 =>
c true v_211 h210) h210 fun w213 v_211 h213 =>
obv (pkR v_173 v_211 (.bool false) h213) fun v_214 =>
obv (.val v_214 h213) fun v_216 =>
k .ret (upd (upd (upd (upd (upd (upd (upd (upd (upd (upd (upd (upd (upd (upd (upd (upd (upd (upd (upd (upd (upd (upd (upd (upd (upd (upd (upd (upd (upd (upd (upd (upd (upd (upd (upd (upd (upd (upd (upd (upd (upd (upd (upd (upd (upd (upd (upd (upd (upd (upd (upd (upd t 75 v_76) 76 v_78) 77 v_80) 78 v_82) 79 v_84) 80 v_86) 81 v_88) 82 v_91) 83 v_94) 84 v_97) 85 v_100) 86 v_103) 87 v_106) 88 v_109) 89 v_111) 90 v_113) 91 v_116) 92 v_119) 93 v_122) 94 v_125) 95 v_128) 96 v_131) 97 v_134) 98 v_136) 99 v_138) 100 v_141) 101 v_144) 102 v_147) 103 v_150) 104 v_153) 105 v_156) 106 v_159) 107 v_162) 108 v_165) 109 v_168) 110 v_171) 111 v_173) 112 v_175) 113 v_178) 114 v_181) 115 v_184) 116 v_187) 117 v_190) 118 v_193) 119 v_196) 120 v_199) 121 v_202) 122 v_205) 123 v_208) 124 v_211) 125 v_214) 6 v_216) h213

def J_precentorlaw11_SubsTells_5 (P : Program) (call : FuncId → List AVal → Heap → Res AVal) (fuel : Nat) (k : Kn (Ex × T)) (t : T) (h : Heap) : Res (Ex × T) :=
arb (.val (t 16) h) call fun v_222 h223 =>
arb (.of (aBin P .add 3 (.tmp 64) (.const (.int .i64 1)) v_222 (.int .i64 1)) h223) call fun v_224 h225 =>
arb (.val v_224 h225) call fun i_226 h227 =>
k .normal (upd (upd (upd t 64 v_222) 65 v_224) 16 i_226) h227

def J_precentorlaw11_SubsTells_4 (P : Program) (call : FuncId → List AVal → Heap → Res AVal) (fuel : Nat) (k : Kn (Ex × T)) (t : T) (h : Heap) : Res (Ex × T) :=
lt (sqK (J_precentorlaw11_SubsTells_5 P call fuel k) k) fun k228 =>
lt (blkK 1 k228) fun k229 =>
obv (.val (t 14) h) fun v_230 =>
obv (.val (t 16) h) fun v_231 =>
obv (.of (ixsR 1 v_230 v_231) h) fun v_232 =>
obv (.of (ld1 h v_232) h) fun v_233 =>
obv (.val (t 15) h) fun v_234 =>
obv (.val (t 16) h) fun v_235 =>
obv (.of (ixsR 1 v_234 v_235) h) fun v_236 =>
obv (.of (ld1 h v_236) h) fun v_237 =>
obv (.of (aBin P .neq 3 (.tmp 69) (.tmp 73) v_233 v_237) h) fun v_238 =>
cb v_238 (
arb (.val (.bool false) h) call fun v_239 h240 =>
k229 .ret (upd (upd (upd (upd (upd (upd (upd (upd (upd (upd t 66 v_230) 67 v_231) 68 v_232) 69 v_233) 70 v_234) 71 v_235) 72 v_236) 73 v_237) 74 v_238) 6 v_239) h240) (
k229 .normal (upd (upd (upd (upd (upd (upd (upd (upd (upd t 66 v_230) 67 v_231) 68 v_232) 69 v_233) 70 v_234) 71 v_235) 72 v_236) 73 v_237) 74 v_238) h)

def L_precentorlaw11_SubsTells_3 (P : Program) (call : FuncId → List AVal → Heap → Res AVal) (fuel : Nat) (t : T) (h : Heap) : Res (Ex × T) :=
lt okK fun k =>
lt (sqK (J_precentorlaw11_SubsTells_4 P call fuel k) k) fun k241 =>
arb (.val (t 16) h) call fun v_242 h243 =>
arb (.val (t 14) h243) call fun v_244 h245 =>
arb (.of (lenL v_244) h245) call fun v_246 h247 =>
arb (.of (aBin P .lss 3 (.tmp 60) (.tmp 62) v_242 v_246) h247) call fun v_248 h249 =>
cb v_248 (
k241 .normal (upd (upd (upd (upd t 60 v_242) 61 v_244) 62 v_246) 63 v_248) h249) (
k241 (.exit 0) (upd (upd (upd (upd t 60 v_242) 61 v_244) 62 v_246) 63 v_248) h249)

def J_precentorlaw11_SubsTells_1 (P : Program) (call : FuncId → List AVal → Heap → Res AVal) (fuel : Nat) (k : Kn (AVal)) (t : T) (h : Heap) : Res (AVal) :=
lt (sqK (J_precentorlaw11_SubsTells_2 P call fuel k) k) fun k218 =>
arb (.val (.int .i64 0) h) call fun i_219 h220 =>
lt (blkK 0 k218) fun k221 =>
(loopN (L_precentorlaw11_SubsTells_3 P call fuel) fuel (upd t 16 i_219) h220).bind (lpK k221)

def J_precentorlaw11_SubsTells_0 (P : Program) (call : FuncId → List AVal → Heap → Res AVal) (fuel : Nat) (k : Kn (AVal)) (t : T) (h : Heap) : Res (AVal) :=
arb (.val (t 8) h) call fun v_34 h35 =>
arb (.call F_precentorlaw11_changes [v_34] h35) call fun v_36 h37 =>
arb (.val v_36 h37) call fun ch_38 h39 =>
arb (.val (t 7) h39) call fun v_40 h41 =>
arb (.call F_precentorhand_Feed_Next [v_40, (.int .i64 8)] h41) call fun v_42 h43 =>
arb (.val (t 7) h43) call fun v_44 h45 =>
arb (.call F_precentorhand_Feed_Next [v_44, (.int .i64 8)] h45) call fun v_46 h47 =>
arb (.val (t 2) h47) call fun v_48 h49 =>
arb (bslR 1 [(.int .i64 0), (.int .i64 0), (.int .i64 0)] 3 h49 [(0, 1, v_42), (1, 1, v_46), (2, 1, v_48)]) call fun v_50 h51 =>
arb (.val v_50 h51) call fun clients_52 h53 =>
arb (.val (t 7) h53) call fun v_54 h55 =>
arb (.call F_precentorhand_Feed_Next [v_54, (.int .i64 6)] h55) call fun v_56 h57 =>
arb (.val v_56 h57) call fun num_58 h59 =>
arb (.val (t 9) h59) call fun v_60 h61 =>
arb (.val clients_52 h61) call fun v_62 h63 =>
arb (.call F_subs_Brokers [v_60, v_62] h63) call fun v_64 h65 =>
arb (.val v_64 h65) call fun got_66 h67 =>
arb (.val (t 9) h67) call fun v_68 h69 =>
arb (.val clients_52 h69) call fun v_70 h71 =>
arb (.call F_precentorref9_Homes [v_68, v_70] h71) call fun v_72 h73 =>
arb (.val v_72 h73) call fun want_74 h75 =>
lt (sqK (J_precentorlaw11_SubsTells_1 P call fuel k) k) fun k250 =>
arb (.call F_precentorlaw11_known [] h75) call fun v_251 h252 =>
arb (.of (aUn P .not v_251) h252) call fun v_253 h254 =>
arb (.val v_253 h254) call fun v_255 h256 =>
gd (wantB v_255 false) (fun c => arb (.val got_66 h256) call c) h256 fun v_257 h258 =>
gd (wantB v_255 false) (fun c => arb (.of (lenL v_257) h258) call c) h258 fun v_259 h260 =>
gd (wantB v_255 false) (fun c => arb (.val want_74 h260) call c) h260 fun v_261 h262 =>
gd (wantB v_255 false) (fun c => arb (.of (lenL v_261) h262) call c) h262 fun v_263 h264 =>
gd (wantB v_255 false) (fun c => arb (.of (aBin P .neq 3 (.tmp 55) (.tmp 57) v_259 v_263) h264) call c) h264 fun v_265 h266 =>
arb (pkR v_255 (.bool true) v_265 h266) call fun v_267 h268 =>
cb v_267 (
arb (.val (.bool false) h268) call fun v_269 h270 =>
k250 .ret (upd (upd (upd (upd (upd (upd (upd (upd (upd (upd (upd (upd (upd (upd (upd (upd (upd (upd (upd (upd (upd (upd (upd (upd (upd (upd (upd (upd (upd (upd (upd t 35 v_34) 36 v_36) 11 ch_38) 37 v_40) 38 v_42) 39 v_44) 40 v_46) 41 v_48) 42 v_50) 12 clients_52) 43 v_54) 44 v_56) 13 num_58) 45 v_60) 46 v_62) 47 v_64) 14 got_66) 48 v_68) 49 v_70) 50 v_72) 15 want_74) 51 v_251) 52 v_253) 53 v_255) 54 v_257) 55 v_259) 56 v_261) 57 v_263) 58 v_265) 59 v_267) 6 v_269) h270) (
k250 .normal (upd (upd (upd (upd (upd (upd (upd (upd (upd (upd (upd (upd (upd (upd (upd (upd (upd (upd (upd (upd (upd (upd (upd (upd (upd (upd (upd (upd (upd (upd t 35 v_34) 36 v_36) 11 ch_38) 37 v_40) 38 v_42) 39 v_44) 40 v_46) 41 v_48) 42 v_50) 12 clients_52) 43 v_54) 44 v_56) 13 num_58) 45 v_60) 46 v_62) 47 v_64) 14 got_66) 48 v_68) 49 v_70) 50 v_72) 15 want_74) 51 v_251) 52 v_253) 53 v_255) 54 v_257) 55 v_259) 56 v_261) 57 v_263) 58 v_265) 59 v_267) h268)

def S_precentorlaw11_SubsTells (P : Program) (call : FuncId → List AVal → Heap → Res AVal) (fuel : Nat) (l_a0 m_a1 n_a2 : AVal) (h : Heap) : Res AVal :=
lt (retK P [.tmp 6]) fun k =>
arb (.val (.bool false) h) call fun v_0 h1 =>
arb (.val l_a0 h1) call fun v_2 h3 =>
arb (.of (bldR [.nils, (.int .i64 0)] [(0, 1, v_2)]) h3) call fun v_4 h5 =>
arb (boxR v_4 h5) call fun v_6 h7 =>
arb (.val v_6 h7) call fun f_8 h9 =>
arb (.val m_a1 h9) call fun v_10 h11 =>
arb (.of (bldR [.nils, (.int .i64 0)] [(0, 1, v_10)]) h11) call fun v_12 h13 =>
arb (boxR v_12 h13) call fun v_14 h15 =>
arb (.val v_14 h15) call fun g_16 h17 =>
arb (.val f_8 h17) call fun v_18 h19 =>
arb (.val n_a2 h19) call fun v_20 h21 =>
arb (.call F_precentorlaw11_some [v_18, v_20] h21) call fun v_22 h23 =>
arb (.val v_22 h23) call fun a_24 h25 =>
arb (.val g_16 h25) call fun v_26 h27 =>
arb (.val n_a2 h27) call fun v_28 h29 =>
arb (.call F_precentorlaw11_some [v_26, v_28] h29) call fun v_30 h31 =>
arb (.val v_30 h31) call fun b_32 h33 =>
lt (sqK (J_precentorlaw11_SubsTells_0 P call fuel k) k) fun k271 =>
arb (.val f_8 h33) call fun v_272 h273 =>
arb (.call F_precentorhand_Feed_Next [v_272, (.int .i64 4)] h273) call fun v_274 h275 =>
arb (.of (aBin P .eql 3 (.tmp 30) (.const (.int .i64 0)) v_274 (.int .i64 0)) h275) call fun v_276 h277 =>
cb v_276 (
arb (bslR 4 [] 0 h277 []) call fun v_278 h279 =>
arb (.val a_24 h279) call fun v_280 h281 =>
arb (appR 4 48 h281 v_278 v_280) call fun v_282 h283 =>
arb (.val v_282 h283) call fun b_284 h285 =>
k271 .normal (upd (upd (upd (upd (upd (upd (upd (upd (upd (upd (upd (upd (upd (upd (upd (upd (upd (upd (upd (upd (upd (upd (upd (upd (enterT [l_a0, m_a1, n_a2]) 6 v_0) 17 v_2) 18 v_4) 19 v_6) 7 f_8) 20 v_10) 21 v_12) 22 v_14) 8 g_16) 23 v_18) 24 v_20) 25 v_22) 9 a_24) 26 v_26) 27 v_28) 28 v_30) 10 b_32) 29 v_272) 30 v_274) 31 v_276) 32 v_278) 33 v_280) 34 v_282) 10 b_284) h285) (
k271 .normal (upd (upd (upd (upd (upd (upd (upd (upd (upd (upd (upd (upd (upd (upd (upd (upd (upd (upd (upd (upd (enterT [l_a0, m_a1, n_a2]) 6 v_0) 17 v_2) 18 v_4) 19 v_6) 7 f_8) 20 v_10) 21 v_12) 22 v_14) 8 g_16) 23 v_18) 24 v_20) 25 v_22) 9 a_24) 26 v_26) 27 v_28) 28 v_30) 10 b_32) 29 v_272) 30 v_274) 31 v_276) h277)
theorem E_precentorlaw11_SubsTells (call : FuncId → List AVal → Heap → Res AVal) (fuel : Nat) (l_a0 m_a1 n_a2 : AVal) (h : Heap) : bodyR Try.prog call fuel Try.f4 [l_a0, m_a1, n_a2] h = S_precentorlaw11_SubsTells Try.prog call fuel l_a0 m_a1 n_a2 h := by kernel_rfl
theorem R_precentorlaw11_SubsTells {X : XTab} (l_a0 m_a1 n_a2 : AVal) {h : Heap} {Q : AVal → Heap → Prop} (hx : X F_precentorlaw11_SubsTells [l_a0, m_a1, n_a2] = none) (q : Tells (fun m => S_precentorlaw11_SubsTells Try.prog (acallX Try.prog X m) m l_a0 m_a1 n_a2 h) Q) :
    Tells (fun m => acallX Try.prog X m F_precentorlaw11_SubsTells [l_a0, m_a1, n_a2] h) Q :=
  Tells.later (q.le fun m => (E_precentorlaw11_SubsTells (acallX Try.prog X m) m l_a0 m_a1 n_a2 h) ▸ acallX_le Try.func4 hx m h)

/-! ### precentor/precentorlaw11.SubsMap -/
def J_precentorlaw11_SubsMap_2 (P : Program) (call : FuncId → List AVal → Heap → Res AVal) (fuel : Nat) (k : Kn (AVal)) (t : T) (h : Heap) : Res (AVal) :=
arb (.call F_precentorlaw11_known [] h) call fun v_36 h37 =>
arb (.val v_36 h37) call fun v_38 h39 =>
gd (wantB v_38 true) (fun c => arb (.val (t 12) h39) call c) h39 fun v_40 h41 =>
gd (wantB v_38 true) (fun c => arb (.val (t 10) h41) call c) h41 fun v_42 h43 =>
gd (wantB v_38 true) (fun c => arb (.of (lenL v_42) h43) call c) h43 fun v_44 h45 =>
gd (wantB v_38 true) (fun c => arb (.of (aBin P .eql 3 (.tmp 216) (.tmp 218) v_40 v_44) h45) call c) h45 fun v_46 h47 =>
arb (pkR v_38 v_46 (.bool false) h47) call fun v_48 h49 =>
arb (.val v_48 h49) call fun v_50 h51 =>
gd (wantB v_50 true) (fun c => arb (.val (t 7) h51) call c) h51 fun v_52 h53 =>
gd (wantB v_50 true) (fun c => arb (.call F_subs_Right [v_52] h53) call c) h53 fun v_54 h55 =>
arb (pkR v_50 v_54 (.bool false) h55) call fun v_56 h57 =>
arb (.val v_56 h57) call fun v_58 h59 =>
k .ret (upd (upd (upd (upd (upd (upd (upd (upd (upd (upd (upd (upd t 214 v_36) 215 v_38) 216 v_40) 217 v_42) 218 v_44) 219 v_46) 220 v_48) 221 v_50) 222 v_52) 223 v_54) 224 v_56) 4 v_58) h59

def J_precentorlaw11_SubsMap_5 (P : Program) (call : FuncId → List AVal → Heap → Res AVal) (fuel : Nat) (k : Kn (Ex × T)) (t : T) (h : Heap) : Res (Ex × T) :=
arb (.val (t 13) h) call fun v_64 h65 =>
arb (.of (aBin P .add 3 (.tmp 103) (.const (.int .i64 1)) v_64 (.int .i64 1)) h65) call fun v_66 h67 =>
arb (.val v_66 h67) call fun c_68 h69 =>
k .normal (upd (upd (upd t 103 v_64) 104 v_66) 13 c_68) h69

def J_precentorlaw11_SubsMap_8 (P : Program) (call : FuncId → List AVal → Heap → Res AVal) (fuel : Nat) (k : Kn (Ex × T)) (t : T) (h : Heap) : Res (Ex × T) :=
arb (.val (t 14) h) call fun v_75 h76 =>
arb (.of (aBin P .add 3 (.tmp 107) (.const (.int .i64 1)) v_75 (.int .i64 1)) h76) call fun v_77 h78 =>
arb (.val v_77 h78) call fun n_79 h80 =>
k .normal (upd (upd (upd t 107 v_75) 108 v_77) 14 n_79) h80

def J_precentorlaw11_SubsMap_12 (P : Program) (call : FuncId → List AVal → Heap → Res AVal) (fuel : Nat) (k : Kn (Ex × T)) (t : T) (h : Heap) : Res (Ex × T) :=
arb (.val (t 20) h) call fun v_113 h114 =>
arb (.of (aUn P .not v_113) h114) call fun v_115 h116 =>
cb v_115 (
arb (.val (.bool false) h116) call fun v_117 h118 =>
k .ret (upd (upd (upd t 212 v_113) 213 v_115) 4 v_117) h118) (
k .normal (upd (upd t 212 v_113) 213 v_115) h116)

def J_precentorlaw11_SubsMap_15 (P : Program) (call : FuncId → List AVal → Heap → Res AVal) (fuel : Nat) (k : Kn (Ex × T)) (t : T) (h : Heap) : Res (Ex × T) :=
arb (.val (t 21) h) call fun v_123 h124 =>
arb (.of (aBin P .add 3 (.tmp 190) (.const (.int .i64 1)) v_123 (.int .i64 1)) h124) call fun v_125 h126 =>
arb (.val v_125 h126) call fun i_127 h128 =>
k .normal (upd (upd (upd t 190 v_123) 191 v_125) 21 i_127) h128

def J_precentorlaw11_SubsMap_14 (P : Program) (call : FuncId → List AVal → Heap → Res AVal) (fuel : Nat) (k : Kn (Ex × T)) (t : T) (h : Heap) : Res (Ex × T) :=
lt (sqK (J_precentorlaw11_SubsMap_15 P call fuel k) k) fun k129 =>
lt (blkK 13 k129) fun k130 =>
obv (.val (t 20) h) fun v_131 =>
obv (.val v_131 h) fun v_133 =>
gdr (wantB v_133 false) (fun c => obv (.val (t 19) h) fun v_135 =>
c true v_135 h) h fun w137 v_135 h137 =>
gdr (wantB v_133 false) (fun c => obv (.val (t 21) h137) fun v_138 =>
c true v_138 h137) h137 fun w140 v_138 h140 =>
gdr (wantB v_133 false) (fun c => obv (.of (ixsR 4 v_135 v_138) h140) fun v_141 =>
c true v_141 h140) h140 fun w143 v_141 h143 =>
gdr (wantB v_133 false) (fun c => obv (.of (fadR 2 v_141) h143) fun v_144 =>
c true v_144 h143) h143 fun w146 v_144 h146 =>
gdr (wantB v_133 false) (fun c => obv (.of (ld1 h146 v_144) h146) fun v_147 => ifb true <|
c true v_147 h146) h146 fun w149 v_147 h149 =>
gdr (wantB v_133 false) (fun c => obv (.val (t 14) h149) fun v_150 =>
c true v_150 h149) h149 fun w152 v_150 h152 =>
gdr (wantB v_133 false) (fun c => obv (.of (aBin P .eql 3 (.tmp 198) (.tmp 199) v_147 v_150) h152) fun v_153 =>
c true v_153 h152) h152 fun w155 v_153 h155 =>
gdr (wantB v_133 false) (fun c => obv (.val v_153 h155) fun v_156 =>
c true v_156 h155) h155 fun w158 v_156 h158 =>
gdr (wantB v_156 true) (fun c => obv (.val (t 19) h158) fun v_159 =>
c true v_159 h158) h158 fun w161 v_159 h161 =>
gdr (wantB v_156 true) (fun c => obv (.val (t 21) h161) fun v_162 =>
c true v_162 h161) h161 fun w164 v_162 h164 =>
gdr (wantB v_156 true) (fun c => obv (.of (ixsR 4 v_159 v_162) h164) fun v_165 =>
c true v_165 h164) h164 fun w167 v_165 h167 =>
gdr (wantB v_156 true) (fun c => obv (.of (fadR 3 v_165) h167) fun v_168 =>
c true v_168 h167) h167 fun w170 v_168 h170 =>
gdr (wantB v_156 true) (fun c => obv (.of (ld1 h170 v_168) h170) fun v_171 => ifb true <|
c true v_171 h170) h170 fun w173 v_171 h173 =>
gdr (wantB v_156 true) (fun c => obv (.of (fadR 3 (t 16)) h173) fun v_174 =>
c true v_174 h173) h173 fun w176 v_174 h176 =>
gdr (wantB v_156 true) (fun c => obv (.of (ld1 h176 v_174) h176) fun v_177 => ifb true <|
c true v_177 h176) h176 fun w179 v_177 h179 =>
gdr (wantB v_156 true) (fun c => arbE (.call F_filter_Same [v_171, v_177] h179) call fun v_180 h181 => lt h181 fun g181 => ifb (true && true) <|
c true v_180 g181) h179 fun w182 v_180 h182 =>
gdr (wantB v_133 false) (fun c => obv (pkR v_156 v_180 (.bool false) h182) fun v_183 =>
c true v_183 h182) h182 fun w185 v_183 h185 =>
obv (pkR v_133 (.bool true) v_183 h185) fun v_186 =>
obv (.val v_186 h185) fun found_188 =>
k130 .normal (upd (upd (upd (upd (upd (upd (upd (upd (upd (upd (upd (upd (upd (upd (upd (upd (upd (upd (upd (upd (upd t 192 v_131) 193 v_133) 194 v_135) 195 v_138) 196 v_141) 197 v_144) 198 v_147) 199 v_150) 200 v_153) 201 v_156) 202 v_159) 203 v_162) 204 v_165) 205 v_168) 206 v_171) 207 v_174) 208 v_177) 209 v_180) 210 v_183) 211 v_186) 20 found_188) h185

def L_precentorlaw11_SubsMap_13 (P : Program) (call : FuncId → List AVal → Heap → Res AVal) (fuel : Nat) (t : T) (h : Heap) : Res (Ex × T) :=
lt okK fun k =>
lt (sqK (J_precentorlaw11_SubsMap_14 P call fuel k) k) fun k190 =>
arb (.val (t 21) h) call fun v_191 h192 =>
arb (.val (t 19) h192) call fun v_193 h194 =>
arb (.of (lenL v_193) h194) call fun v_195 h196 =>
arb (.of (aBin P .lss 3 (.tmp 186) (.tmp 188) v_191 v_195) h196) call fun v_197 h198 =>
cb v_197 (
k190 .normal (upd (upd (upd (upd t 186 v_191) 187 v_193) 188 v_195) 189 v_197) h198) (
k190 (.exit 12) (upd (upd (upd (upd t 186 v_191) 187 v_193) 188 v_195) 189 v_197) h198)

def J_precentorlaw11_SubsMap_11 (P : Program) (call : FuncId → List AVal → Heap → Res AVal) (fuel : Nat) (k : Kn (Ex × T)) (t : T) (h : Heap) : Res (Ex × T) :=
arb (.val (t 15) h) call fun v_95 h96 =>
cb v_95 (
arb (.val (t 12) h96) call fun v_97 h98 =>
arb (.of (aBin P .add 3 (.tmp 181) (.const (.int .i64 1)) v_97 (.int .i64 1)) h98) call fun v_99 h100 =>
arb (.val v_99 h100) call fun count_101 h102 =>
arb (.val (t 10) h102) call fun v_103 h104 =>
arb (.val (t 13) h104) call fun v_105 h106 =>
arb (.call F_subs_Of [v_103, v_105] h106) call fun v_107 h108 =>
arb (.val v_107 h108) call fun mine_109 h110 =>
arb (.val (.bool false) h110) call fun found_111 h112 =>
lt (sqK (J_precentorlaw11_SubsMap_12 P call fuel k) k) fun k119 =>
arb (.val (.int .i64 0) h112) call fun i_120 h121 =>
lt (blkK 12 k119) fun k122 =>
(loopN (L_precentorlaw11_SubsMap_13 P call fuel) fuel (upd (upd (upd (upd (upd (upd (upd (upd (upd (upd t 180 v_95) 181 v_97) 182 v_99) 12 count_101) 183 v_103) 184 v_105) 185 v_107) 19 mine_109) 20 found_111) 21 i_120) h121).bind (lpK k122)) (
k .normal (upd t 180 v_95) h96)

def J_precentorlaw11_SubsMap_10 (P : Program) (call : FuncId → List AVal → Heap → Res AVal) (fuel : Nat) (k : Kn (Ex × T)) (t : T) (h : Heap) : Res (Ex × T) :=
lt (sqK (J_precentorlaw11_SubsMap_11 P call fuel k) k) fun k199 =>
arb (.val (t 10) h) call fun v_200 h201 =>
arb (.val (t 13) h201) call fun v_202 h203 =>
arb (.val (t 14) h203) call fun v_204 h205 =>
arb (.call F_subs_Has [v_200, v_202, v_204] h205) call fun v_206 h207 =>
arb (.val (t 15) h207) call fun v_208 h209 =>
arb (.of (aBin P .neq 4 (.tmp 177) (.tmp 178) v_206 v_208) h209) call fun v_210 h211 =>
cb v_210 (
arb (.val (.bool false) h211) call fun v_212 h213 =>
k199 .ret (upd (upd (upd (upd (upd (upd (upd t 174 v_200) 175 v_202) 176 v_204) 177 v_206) 178 v_208) 179 v_210) 4 v_212) h213) (
k199 .normal (upd (upd (upd (upd (upd (upd t 174 v_200) 175 v_202) 176 v_204) 177 v_206) 178 v_208) 179 v_210) h211)

def J_precentorlaw11_SubsMap_18 (P : Program) (call : FuncId → List AVal → Heap → Res AVal) (fuel : Nat) (k : Kn (Ex × T)) (t : T) (h : Heap) : Res (Ex × T) :=
arb (.val (t 18) h) call fun v_218 h219 =>
arb (.of (aBin P .add 3 (.tmp 143) (.const (.int .i64 1)) v_218 (.int .i64 1)) h219) call fun v_220 h221 =>
arb (.val v_220 h221) call fun i_222 h223 =>
k .normal (upd (upd (upd t 143 v_218) 144 v_220) 18 i_222) h223

def J_precentorlaw11_SubsMap_17 (P : Program) (call : FuncId → List AVal → Heap → Res AVal) (fuel : Nat) (k : Kn (Ex × T)) (t : T) (h : Heap) : Res (Ex × T) :=
lt (sqK (J_precentorlaw11_SubsMap_18 P call fuel k) k) fun k224 =>
lt (blkK 11 k224) fun k225 =>
arb (.val (t 8) h) call fun v_226 h227 =>
arb (.val (t 18) h227) call fun v_228 h229 =>
arb (.of (ixsR 5 v_226 v_228) h229) call fun v_230 h231 =>
arb (.of (fadR 1 v_230) h231) call fun v_232 h233 =>
arb (.of (fadR 0 v_232) h233) call fun v_234 h235 =>
arb (.of (ld1 h235 v_234) h235) call fun v_236 h237 =>
arb (.val (t 13) h237) call fun v_238 h239 =>
arb (.of (aBin P .eql 3 (.tmp 150) (.tmp 151) v_236 v_238) h239) call fun v_240 h241 =>
arb (.val v_240 h241) call fun v_242 h243 =>
gd (wantB v_242 true) (fun c => arb (.val (t 8) h243) call c) h243 fun v_244 h245 =>
gd (wantB v_242 true) (fun c => arb (.val (t 18) h245) call c) h245 fun v_246 h247 =>
gd (wantB v_242 true) (fun c => arb (.of (ixsR 5 v_244 v_246) h247) call c) h247 fun v_248 h249 =>
gd (wantB v_242 true) (fun c => arb (.of (fadR 1 v_248) h249) call c) h249 fun v_250 h251 =>
gd (wantB v_242 true) (fun c => arb (.of (fadR 2 v_250) h251) call c) h251 fun v_252 h253 =>
gd (wantB v_242 true) (fun c => arb (.of (ld1 h253 v_252) h253) call c) h253 fun v_254 h255 =>
gd (wantB v_242 true) (fun c => arb (.val (t 14) h255) call c) h255 fun v_256 h257 =>
gd (wantB v_242 true) (fun c => arb (.of (aBin P .eql 3 (.tmp 159) (.tmp 160) v_254 v_256) h257) call c) h257 fun v_258 h259 =>
arb (pkR v_242 v_258 (.bool false) h259) call fun v_260 h261 =>
cb v_260 (
arb (.val (t 8) h261) call fun v_262 h263 =>
arb (.val (t 18) h263) call fun v_264 h265 =>
arb (.of (ixsR 5 v_262 v_264) h265) call fun v_266 h267 =>
arb (.of (fadR 0 v_266) h267) call fun v_268 h269 =>
arb (.of (ld1 h269 v_268) h269) call fun v_270 h271 =>
arb (.of (aUn P .not v_270) h271) call fun v_272 h273 =>
arb (.val v_272 h273) call fun is_274 h275 =>
arb (.val (t 8) h275) call fun v_276 h277 =>
arb (.val (t 18) h277) call fun v_278 h279 =>
arb (.of (ixsR 5 v_276 v_278) h279) call fun v_280 h281 =>
arb (.of (fadR 1 v_280) h281) call fun v_282 h283 =>
arb (.of (ldn 4 h283 v_282) h283) call fun v_284 h285 =>
arb (stR 4 h285 (t 16) v_284) call fun v_286 h287 =>
k225 .normal (upd (upd (upd (upd (upd (upd (upd (upd (upd (upd (upd (upd (upd (upd (upd (upd (upd (upd (upd (upd (upd (upd (upd (upd (upd (upd (upd (upd (upd (upd t 145 v_226) 146 v_228) 147 v_230) 148 v_232) 149 v_234) 150 v_236) 151 v_238) 152 v_240) 153 v_242) 154 v_244) 155 v_246) 156 v_248) 157 v_250) 158 v_252) 159 v_254) 160 v_256) 161 v_258) 162 v_260) 163 v_262) 164 v_264) 165 v_266) 166 v_268) 167 v_270) 168 v_272) 15 is_274) 169 v_276) 170 v_278) 171 v_280) 172 v_282) 173 v_284) h287) (
k225 .normal (upd (upd (upd (upd (upd (upd (upd (upd (upd (upd (upd (upd (upd (upd (upd (upd (upd (upd t 145 v_226) 146 v_228) 147 v_230) 148 v_232) 149 v_234) 150 v_236) 151 v_238) 152 v_240) 153 v_242) 154 v_244) 155 v_246) 156 v_248) 157 v_250) 158 v_252) 159 v_254) 160 v_256) 161 v_258) 162 v_260) h261)

def L_precentorlaw11_SubsMap_16 (P : Program) (call : FuncId → List AVal → Heap → Res AVal) (fuel : Nat) (t : T) (h : Heap) : Res (Ex × T) :=
lt okK fun k =>
lt (sqK (J_precentorlaw11_SubsMap_17 P call fuel k) k) fun k288 =>
arb (.val (t 18) h) call fun v_289 h290 =>
arb (.val (t 8) h290) call fun v_291 h292 =>
arb (.of (lenL v_291) h292) call fun v_293 h294 =>
arb (.of (aBin P .lss 3 (.tmp 139) (.tmp 141) v_289 v_293) h294) call fun v_295 h296 =>
cb v_295 (
k288 .normal (upd (upd (upd (upd t 139 v_289) 140 v_291) 141 v_293) 142 v_295) h296) (
k288 (.exit 10) (upd (upd (upd (upd t 139 v_289) 140 v_291) 141 v_293) 142 v_295) h296)

def J_precentorlaw11_SubsMap_9 (P : Program) (call : FuncId → List AVal → Heap → Res AVal) (fuel : Nat) (k : Kn (Ex × T)) (t : T) (h : Heap) : Res (Ex × T) :=
lt (sqK (J_precentorlaw11_SubsMap_10 P call fuel k) k) fun k214 =>
arb (.val (.int .i64 0) h) call fun i_215 h216 =>
lt (blkK 10 k214) fun k217 =>
(loopN (L_precentorlaw11_SubsMap_16 P call fuel) fuel (upd t 18 i_215) h216).bind (lpK k217)

def J_precentorlaw11_SubsMap_21 (P : Program) (call : FuncId → List AVal → Heap → Res AVal) (fuel : Nat) (k : Kn (Ex × T)) (t : T) (h : Heap) : Res (Ex × T) :=
arb (.val (t 17) h) call fun v_301 h302 =>
arb (.of (aBin P .add 3 (.tmp 117) (.const (.int .i64 1)) v_301 (.int .i64 1)) h302) call fun v_303 h304 =>
arb (.val v_303 h304) call fun i_305 h306 =>
k .normal (upd (upd (upd t 117 v_301) 118 v_303) 17 i_305) h306

def J_precentorlaw11_SubsMap_20 (P : Program) (call : FuncId → List AVal → Heap → Res AVal) (fuel : Nat) (k : Kn (Ex × T)) (t : T) (h : Heap) : Res (Ex × T) :=
lt (sqK (J_precentorlaw11_SubsMap_21 P call fuel k) k) fun k307 =>
lt (blkK 9 k307) fun k308 =>
arb (.val (t 7) h) call fun v_309 h310 =>
arb (.val (t 17) h310) call fun v_311 h312 =>
arb (.of (ixsR 4 v_309 v_311) h312) call fun v_313 h314 =>
arb (.of (fadR 0 v_313) h314) call fun v_315 h316 =>
arb (.of (ld1 h316 v_315) h316) call fun v_317 h318 =>
arb (.val (t 13) h318) call fun v_319 h320 =>
arb (.of (aBin P .eql 3 (.tmp 123) (.tmp 124) v_317 v_319) h320) call fun v_321 h322 =>
arb (.val v_321 h322) call fun v_323 h324 =>
gd (wantB v_323 true) (fun c => arb (.val (t 7) h324) call c) h324 fun v_325 h326 =>
gd (wantB v_323 true) (fun c => arb (.val (t 17) h326) call c) h326 fun v_327 h328 =>
gd (wantB v_323 true) (fun c => arb (.of (ixsR 4 v_325 v_327) h328) call c) h328 fun v_329 h330 =>
gd (wantB v_323 true) (fun c => arb (.of (fadR 2 v_329) h330) call c) h330 fun v_331 h332 =>
gd (wantB v_323 true) (fun c => arb (.of (ld1 h332 v_331) h332) call c) h332 fun v_333 h334 =>
gd (wantB v_323 true) (fun c => arb (.val (t 14) h334) call c) h334 fun v_335 h336 =>
gd (wantB v_323 true) (fun c => arb (.of (aBin P .eql 3 (.tmp 131) (.tmp 132) v_333 v_335) h336) call c) h336 fun v_337 h338 =>
arb (pkR v_323 v_337 (.bool false) h338) call fun v_339 h340 =>
cb v_339 (
arb (.val (t 7) h340) call fun v_341 h342 =>
arb (.val (t 17) h342) call fun v_343 h344 =>
arb (.of (ixsR 4 v_341 v_343) h344) call fun v_345 h346 =>
arb (.of (ldn 4 h346 v_345) h346) call fun v_347 h348 =>
arb (stR 4 h348 (t 16) v_347) call fun v_349 h350 =>
k308 .normal (upd (upd (upd (upd (upd (upd (upd (upd (upd (upd (upd (upd (upd (upd (upd (upd (upd (upd (upd (upd t 119 v_309) 120 v_311) 121 v_313) 122 v_315) 123 v_317) 124 v_319) 125 v_321) 126 v_323) 127 v_325) 128 v_327) 129 v_329) 130 v_331) 131 v_333) 132 v_335) 133 v_337) 134 v_339) 135 v_341) 136 v_343) 137 v_345) 138 v_347) h350) (
k308 .normal (upd (upd (upd (upd (upd (upd (upd (upd (upd (upd (upd (upd (upd (upd (upd (upd t 119 v_309) 120 v_311) 121 v_313) 122 v_315) 123 v_317) 124 v_319) 125 v_321) 126 v_323) 127 v_325) 128 v_327) 129 v_329) 130 v_331) 131 v_333) 132 v_335) 133 v_337) 134 v_339) h340)

def L_precentorlaw11_SubsMap_19 (P : Program) (call : FuncId → List AVal → Heap → Res AVal) (fuel : Nat) (t : T) (h : Heap) : Res (Ex × T) :=
lt okK fun k =>
lt (sqK (J_precentorlaw11_SubsMap_20 P call fuel k) k) fun k351 =>
arb (.val (t 17) h) call fun v_352 h353 =>
arb (.val (t 7) h353) call fun v_354 h355 =>
arb (.of (lenL v_354) h355) call fun v_356 h357 =>
arb (.of (aBin P .lss 3 (.tmp 113) (.tmp 115) v_352 v_356) h357) call fun v_358 h359 =>
cb v_358 (
k351 .normal (upd (upd (upd (upd t 113 v_352) 114 v_354) 115 v_356) 116 v_358) h359) (
k351 (.exit 8) (upd (upd (upd (upd t 113 v_352) 114 v_354) 115 v_356) 116 v_358) h359)

def J_precentorlaw11_SubsMap_7 (P : Program) (call : FuncId → List AVal → Heap → Res AVal) (fuel : Nat) (k : Kn (Ex × T)) (t : T) (h : Heap) : Res (Ex × T) :=
lt (sqK (J_precentorlaw11_SubsMap_8 P call fuel k) k) fun k81 =>
lt (blkK 7 k81) fun k82 =>
arb (.val (t 7) h) call fun v_83 h84 =>
arb (.val (t 13) h84) call fun v_85 h86 =>
arb (.val (t 14) h86) call fun v_87 h88 =>
arb (.call F_subs_Has [v_83, v_85, v_87] h88) call fun v_89 h90 =>
arb (.val v_89 h90) call fun is_91 h92 =>
arb (newR [(.int .i64 0), (.int .i64 0), (.int .i64 0), .nils] h92) call fun x_93 h94 =>
lt (sqK (J_precentorlaw11_SubsMap_9 P call fuel k82) k82) fun k297 =>
arb (.val (.int .i64 0) h94) call fun i_298 h299 =>
lt (blkK 8 k297) fun k300 =>
(loopN (L_precentorlaw11_SubsMap_19 P call fuel) fuel (upd (upd (upd (upd (upd (upd (upd t 109 v_83) 110 v_85) 111 v_87) 112 v_89) 15 is_91) 16 x_93) 17 i_298) h299).bind (lpK k300)

def L_precentorlaw11_SubsMap_6 (P : Program) (call : FuncId → List AVal → Heap → Res AVal) (fuel : Nat) (t : T) (h : Heap) : Res (Ex × T) :=
lt okK fun k =>
lt (sqK (J_precentorlaw11_SubsMap_7 P call fuel k) k) fun k360 =>
arb (.val (t 14) h) call fun v_361 h362 =>
arb (.of (aBin P .leq 3 (.tmp 105) (.const (.int .i64 9)) v_361 (.int .i64 9)) h362) call fun v_363 h364 =>
cb v_363 (
k360 .normal (upd (upd t 105 v_361) 106 v_363) h364) (
k360 (.exit 6) (upd (upd t 105 v_361) 106 v_363) h364)

def J_precentorlaw11_SubsMap_4 (P : Program) (call : FuncId → List AVal → Heap → Res AVal) (fuel : Nat) (k : Kn (Ex × T)) (t : T) (h : Heap) : Res (Ex × T) :=
lt (sqK (J_precentorlaw11_SubsMap_5 P call fuel k) k) fun k70 =>
lt (blkK 5 k70) fun k71 =>
arb (.val (.int .i64 1) h) call fun n_72 h73 =>
lt (blkK 6 k71) fun k74 =>
(loopN (L_precentorlaw11_SubsMap_6 P call fuel) fuel (upd t 14 n_72) h73).bind (lpK k74)

def L_precentorlaw11_SubsMap_3 (P : Program) (call : FuncId → List AVal → Heap → Res AVal) (fuel : Nat) (t : T) (h : Heap) : Res (Ex × T) :=
lt okK fun k =>
lt (sqK (J_precentorlaw11_SubsMap_4 P call fuel k) k) fun k365 =>
arb (.val (t 13) h) call fun v_366 h367 =>
arb (.of (aBin P .leq 3 (.tmp 101) (.const (.int .i64 6)) v_366 (.int .i64 6)) h367) call fun v_368 h369 =>
cb v_368 (
k365 .normal (upd (upd t 101 v_366) 102 v_368) h369) (
k365 (.exit 4) (upd (upd t 101 v_366) 102 v_368) h369)

def J_precentorlaw11_SubsMap_1 (P : Program) (call : FuncId → List AVal → Heap → Res AVal) (fuel : Nat) (k : Kn (AVal)) (t : T) (h : Heap) : Res (AVal) :=
arb (.val (.int .i64 0) h) call fun count_34 h35 =>
lt (sqK (J_precentorlaw11_SubsMap_2 P call fuel k) k) fun k60 =>
arb (.val (.int .i64 1) h35) call fun c_61 h62 =>
lt (blkK 4 k60) fun k63 =>
(loopN (L_precentorlaw11_SubsMap_3 P call fuel) fuel (upd (upd t 12 count_34) 13 c_61) h62).bind (lpK k63)

def J_precentorlaw11_SubsMap_24 (P : Program) (call : FuncId → List AVal → Heap → Res AVal) (fuel : Nat) (k : Kn (Ex × T)) (t : T) (h : Heap) : Res (Ex × T) :=
arb (.val (t 11) h) call fun v_374 h375 =>
arb (.of (aBin P .add 3 (.tmp 59) (.const (.int .i64 1)) v_374 (.int .i64 1)) h375) call fun v_376 h377 =>
arb (.val v_376 h377) call fun i_378 h379 =>
k .normal (upd (upd (upd t 59 v_374) 60 v_376) 11 i_378) h379

def J_precentorlaw11_SubsMap_23 (P : Program) (call : FuncId → List AVal → Heap → Res AVal) (fuel : Nat) (k : Kn (Ex × T)) (t : T) (h : Heap) : Res (Ex × T) :=
lt (sqK (J_precentorlaw11_SubsMap_24 P call fuel k) k) fun k380 =>
lt (blkK 3 k380) fun k381 =>
obv (.val (t 10) h) fun v_382 =>
obv (.val (t 11) h) fun v_383 =>
obv (.of (aBin P .sub 3 (.tmp 62) (.const (.int .i64 1)) v_383 (.int .i64 1)) h) fun v_384 =>
obv (.of (ixsR 4 v_382 v_384) h) fun v_385 =>
obv (.of (fadR 0 v_385) h) fun v_386 =>
obv (.of (ld1 h v_386) h) fun v_387 =>
obv (.val (t 10) h) fun v_388 =>
obv (.val (t 11) h) fun v_389 =>
obv (.of (ixsR 4 v_388 v_389) h) fun v_390 =>
obv (.of (fadR 0 v_390) h) fun v_391 =>
obv (.of (ld1 h v_391) h) fun v_392 =>
obv (.of (aBin P .gtr 3 (.tmp 66) (.tmp 71) v_387 v_392) h) fun v_393 =>
obv (.val v_393 h) fun v_394 =>
gd (wantB v_394 false) (fun c => obv (.val (t 10) h) fun v => c v h) h fun v_395 h396 =>
gd (wantB v_394 false) (fun c => obv (.val (t 11) h396) fun v => c v h396) h396 fun v_397 h398 =>
gd (wantB v_394 false) (fun c => obv (.of (aBin P .sub 3 (.tmp 75) (.const (.int .i64 1)) v_397 (.int .i64 1)) h398) fun v => c v h398) h398 fun v_399 h400 =>
gd (wantB v_394 false) (fun c => obv (.of (ixsR 4 v_395 v_399) h400) fun v => c v h400) h400 fun v_401 h402 =>
gd (wantB v_394 false) (fun c => obv (.of (fadR 0 v_401) h402) fun v => c v h402) h402 fun v_403 h404 =>
gd (wantB v_394 false) (fun c => obv (.of (ld1 h404 v_403) h404) fun v => c v h404) h404 fun v_405 h406 =>
gd (wantB v_394 false) (fun c => obv (.val (t 10) h406) fun v => c v h406) h406 fun v_407 h408 =>
gd (wantB v_394 false) (fun c => obv (.val (t 11) h408) fun v => c v h408) h408 fun v_409 h410 =>
gd (wantB v_394 false) (fun c => obv (.of (ixsR 4 v_407 v_409) h410) fun v => c v h410) h410 fun v_411 h412 =>
gd (wantB v_394 false) (fun c => obv (.of (fadR 0 v_411) h412) fun v => c v h412) h412 fun v_413 h414 =>
gd (wantB v_394 false) (fun c => obv (.of (ld1 h414 v_413) h414) fun v => c v h414) h414 fun v_415 h416 =>
gd (wantB v_394 false) (fun c => obv (.of (aBin P .eql 3 (.tmp 79) (.tmp 84) v_405 v_415) h416) fun v => c v h416) h416 fun v_417 h418 =>
gd (wantB v_394 false) (fun c => obv (.val v_417 h418) fun v => c v h418) h418 fun v_419 h420 =>
gd (wantB v_419 true) (fun c => obv (.val (t 10) h420) fun v => c v h420) h420 fun v_421 h422 =>
gd (wantB v_419 true) (fun c => obv (.val (t 11) h422) fun v => c v h422) h422 fun v_423 h424 =>
gd (wantB v_419 true) (fun c => obv (.of (aBin P .sub 3 (.tmp 88) (.const (.int .i64 1)) v_423 (.int .i64 1)) h424) fun v => c v h424) h424 fun v_425 h426 =>
gd (wantB v_419 true) (fun c => obv (.of (ixsR 4 v_421 v_425) h426) fun v => c v h426) h426 fun v_427 h428 =>
gd (wantB v_419 true) (fun c => obv (.of (fadR 2 v_427) h428) fun v => c v h428) h428 fun v_429 h430 =>
gd (wantB v_419 true) (fun c => obv (.of (ld1 h430 v_429) h430) fun v => c v h430) h430 fun v_431 h432 =>
gd (wantB v_419 true) (fun c => obv (.val (t 10) h432) fun v => c v h432) h432 fun v_433 h434 =>
gd (wantB v_419 true) (fun c => obv (.val (t 11) h434) fun v => c v h434) h434 fun v_435 h436 =>
gd (wantB v_419 true) (fun c => obv (.of (ixsR 4 v_433 v_435) h436) fun v => c v h436) h436 fun v_437 h438 =>
gd (wantB v_419 true) (fun c => obv (.of (fadR 2 v_437) h438) fun v => c v h438) h438 fun v_439 h440 =>
gd (wantB v_419 true) (fun c => obv (.of (ld1 h440 v_439) h440) fun v => c v h440) h440 fun v_441 h442 =>
gd (wantB v_419 true) (fun c => obv (.of (aBin P .geq 3 (.tmp 92) (.tmp 97) v_431 v_441) h442) fun v => c v h442) h442 fun v_443 h444 =>
gd (wantB v_394 false) (fun c => obv (pkR v_419 v_443 (.bool false) h444) fun v => c v h444) h444 fun v_445 h446 =>
obv (pkR v_394 (.bool true) v_445 h446) fun v_447 =>
cb v_447 (
arb (.val (.bool false) h446) call fun v_448 h449 =>
k381 .ret (upd (upd (upd (upd (upd (upd (upd (upd (upd (upd (upd (upd (upd (upd (upd (upd (upd (upd (upd (upd (upd (upd (upd (upd (upd (upd (upd (upd (upd (upd (upd (upd (upd (upd (upd (upd (upd (upd (upd (upd (upd t 61 v_382) 62 v_383) 63 v_384) 64 v_385) 65 v_386) 66 v_387) 67 v_388) 68 v_389) 69 v_390) 70 v_391) 71 v_392) 72 v_393) 73 v_394) 74 v_395) 75 v_397) 76 v_399) 77 v_401) 78 v_403) 79 v_405) 80 v_407) 81 v_409) 82 v_411) 83 v_413) 84 v_415) 85 v_417) 86 v_419) 87 v_421) 88 v_423) 89 v_425) 90 v_427) 91 v_429) 92 v_431) 93 v_433) 94 v_435) 95 v_437) 96 v_439) 97 v_441) 98 v_443) 99 v_445) 100 v_447) 4 v_448) h449) (
k381 .normal (upd (upd (upd (upd (upd (upd (upd (upd (upd (upd (upd (upd (upd (upd (upd (upd (upd (upd (upd (upd (upd (upd (upd (upd (upd (upd (upd (upd (upd (upd (upd (upd (upd (upd (upd (upd (upd (upd (upd (upd t 61 v_382) 62 v_383) 63 v_384) 64 v_385) 65 v_386) 66 v_387) 67 v_388) 68 v_389) 69 v_390) 70 v_391) 71 v_392) 72 v_393) 73 v_394) 74 v_395) 75 v_397) 76 v_399) 77 v_401) 78 v_403) 79 v_405) 80 v_407) 81 v_409) 82 v_411) 83 v_413) 84 v_415) 85 v_417) 86 v_419) 87 v_421) 88 v_423) 89 v_425) 90 v_427) 91 v_429) 92 v_431) 93 v_433) 94 v_435) 95 v_437) 96 v_439) 97 v_441) 98 v_443) 99 v_445) 100 v_447) h446)

def L_precentorlaw11_SubsMap_22 (P : Program) (call : FuncId → List AVal → Heap → Res AVal) (fuel : Nat) (t : T) (h : Heap) : Res (Ex × T) :=
lt okK fun k =>
lt (sqK (J_precentorlaw11_SubsMap_23 P call fuel k) k) fun k450 =>
arb (.val (t 11) h) call fun v_451 h452 =>
arb (.val (t 10) h452) call fun v_453 h454 =>
arb (.of (lenL v_453) h454) call fun v_455 h456 =>
arb (.of (aBin P .lss 3 (.tmp 55) (.tmp 57) v_451 v_455) h456) call fun v_457 h458 =>
cb v_457 (
k450 .normal (upd (upd (upd (upd t 55 v_451) 56 v_453) 57 v_455) 58 v_457) h458) (
k450 (.exit 2) (upd (upd (upd (upd t 55 v_451) 56 v_453) 57 v_455) 58 v_457) h458)

def J_precentorlaw11_SubsMap_0 (P : Program) (call : FuncId → List AVal → Heap → Res AVal) (fuel : Nat) (k : Kn (AVal)) (t : T) (h : Heap) : Res (AVal) :=
arb (.val (t 7) h) call fun v_26 h27 =>
arb (.val (t 8) h27) call fun v_28 h29 =>
arb (.call F_subs_Apply [v_26, v_28] h29) call fun v_30 h31 =>
arb (.val v_30 h31) call fun b_32 h33 =>
lt (sqK (J_precentorlaw11_SubsMap_1 P call fuel k) k) fun k370 =>
arb (.val (.int .i64 1) h33) call fun i_371 h372 =>
lt (blkK 2 k370) fun k373 =>
(loopN (L_precentorlaw11_SubsMap_22 P call fuel) fuel (upd (upd (upd (upd (upd t 52 v_26) 53 v_28) 54 v_30) 10 b_32) 11 i_371) h372).bind (lpK k373)

def J_precentorlaw11_SubsMap_27 (P : Program) (call : FuncId → List AVal → Heap → Res AVal) (fuel : Nat) (k : Kn (Ex × T)) (t : T) (h : Heap) : Res (Ex × T) :=
arb (.val (t 9) h) call fun v_467 h468 =>
arb (.of (aBin P .sub 3 (.tmp 34) (.const (.int .i64 1)) v_467 (.int .i64 1)) h468) call fun v_469 h470 =>
arb (.val v_469 h470) call fun n_471 h472 =>
k .normal (upd (upd (upd t 34 v_467) 35 v_469) 9 n_471) h472

def J_precentorlaw11_SubsMap_26 (P : Program) (call : FuncId → List AVal → Heap → Res AVal) (fuel : Nat) (k : Kn (Ex × T)) (t : T) (h : Heap) : Res (Ex × T) :=
lt (sqK (J_precentorlaw11_SubsMap_27 P call fuel k) k) fun k473 =>
lt (blkK 1 k473) fun k474 =>
arb (.val (t 8) h) call fun v_475 h476 =>
arb (.val (t 6) h476) call fun v_477 h478 =>
arb (.call F_precentorhand_Feed_Next [v_477, (.int .i64 2)] h478) call fun v_479 h480 =>
arb (.of (aBin P .eql 3 (.tmp 38) (.const (.int .i64 0)) v_479 (.int .i64 0)) h480) call fun v_481 h482 =>
arb (.val (t 6) h482) call fun v_483 h484 =>
arb (.call F_precentorhand_Feed_Next [v_483, (.int .i64 3)] h484) call fun v_485 h486 =>
arb (.of (aBin P .add 3 (.const (.int .i64 1)) (.tmp 41) (.int .i64 1) v_485) h486) call fun v_487 h488 =>
arb (.val (t 6) h488) call fun v_489 h490 =>
arb (.call F_precentorhand_Feed_Next [v_489, (.int .i64 4)] h490) call fun v_491 h492 =>
arb (.of (aBin P .add 3 (.const (.int .i64 1)) (.tmp 44) (.int .i64 1) v_491) h492) call fun v_493 h494 =>
arb (.val (t 6) h494) call fun v_495 h496 =>
arb (.call F_precentorhand_Feed_Filter [v_495] h496) call fun v_497 h498 =>
arb (.of (bldR [(.int .i64 0), (.int .i64 0), (.int .i64 0), .nils] [(0, 1, v_487), (2, 1, v_493), (3, 1, v_497)]) h498) call fun v_499 h500 =>
arb (.of (bldR [(.bool false), (.int .i64 0), (.int .i64 0), (.int .i64 0), .nils] [(0, 1, v_481), (1, 4, v_499)]) h500) call fun v_501 h502 =>
arb (bslR 5 [(.bool false), (.int .i64 0), (.int .i64 0), (.int .i64 0), .nils] 1 h502 [(0, 5, v_501)]) call fun v_503 h504 =>
arb (appR 5 56 h504 v_475 v_503) call fun v_505 h506 =>
arb (.val v_505 h506) call fun ch_507 h508 =>
k474 .normal (upd (upd (upd (upd (upd (upd (upd (upd (upd (upd (upd (upd (upd (upd (upd (upd (upd t 36 v_475) 37 v_477) 38 v_479) 39 v_481) 40 v_483) 41 v_485) 42 v_487) 43 v_489) 44 v_491) 45 v_493) 46 v_495) 47 v_497) 48 v_499) 49 v_501) 50 v_503) 51 v_505) 8 ch_507) h508

def L_precentorlaw11_SubsMap_25 (P : Program) (call : FuncId → List AVal → Heap → Res AVal) (fuel : Nat) (t : T) (h : Heap) : Res (Ex × T) :=
lt okK fun k =>
lt (sqK (J_precentorlaw11_SubsMap_26 P call fuel k) k) fun k509 =>
arb (.val (t 9) h) call fun v_510 h511 =>
arb (.of (aBin P .gtr 3 (.tmp 32) (.const (.int .i64 0)) v_510 (.int .i64 0)) h511) call fun v_512 h513 =>
cb v_512 (
k509 .normal (upd (upd t 32 v_510) 33 v_512) h513) (
k509 (.exit 0) (upd (upd t 32 v_510) 33 v_512) h513)

def S_precentorlaw11_SubsMap (P : Program) (call : FuncId → List AVal → Heap → Res AVal) (fuel : Nat) (l_a0 m_a1 : AVal) (h : Heap) : Res AVal :=
lt (retK P [.tmp 4]) fun k =>
arb (.val (.bool false) h) call fun v_0 h1 =>
arb (.val l_a0 h1) call fun v_2 h3 =>
arb (.of (bldR [.nils, (.int .i64 0)] [(0, 1, v_2)]) h3) call fun v_4 h5 =>
arb (boxR v_4 h5) call fun v_6 h7 =>
arb (.val v_6 h7) call fun f_8 h9 =>
arb (.val m_a1 h9) call fun v_10 h11 =>
arb (.of (bldR [.nils, (.int .i64 0)] [(0, 1, v_10)]) h11) call fun v_12 h13 =>
arb (boxR v_12 h13) call fun v_14 h15 =>
arb (.val v_14 h15) call fun g_16 h17 =>
arb (.val f_8 h17) call fun v_18 h19 =>
arb (.call F_precentorhand_Feed_Subs [v_18, .nils] h19) call fun v_20 h21 =>
arb (.val v_20 h21) call fun a_22 h23 =>
arb (.val .nils h23) call fun ch_24 h25 =>
lt (sqK (J_precentorlaw11_SubsMap_0 P call fuel k) k) fun k459 =>
arb (.val g_16 h25) call fun v_460 h461 =>
arb (.call F_precentorhand_Feed_Next [v_460, (.int .i64 9)] h461) call fun v_462 h463 =>
arb (.val v_462 h463) call fun n_464 h465 =>
lt (blkK 0 k459) fun k466 =>
(loopN (L_precentorlaw11_SubsMap_25 P call fuel) fuel (upd (upd (upd (upd (upd (upd (upd (upd (upd (upd (upd (upd (upd (upd (upd (upd (enterT [l_a0, m_a1]) 4 v_0) 22 v_2) 23 v_4) 24 v_6) 5 f_8) 25 v_10) 26 v_12) 27 v_14) 6 g_16) 28 v_18) 29 v_20) 7 a_22) 8 ch_24) 30 v_460) 31 v_462) 9 n_464) h465).bind (lpK k466)
theorem E_precentorlaw11_SubsMap (call : FuncId → List AVal → Heap → Res AVal) (fuel : Nat) (l_a0 m_a1 : AVal) (h : Heap) : bodyR Try.prog call fuel Try.f5 [l_a0, m_a1] h = S_precentorlaw11_SubsMap Try.prog call fuel l_a0 m_a1 h := by kernel_rfl
theorem R_precentorlaw11_SubsMap {X : XTab} (l_a0 m_a1 : AVal) {h : Heap} {Q : AVal → Heap → Prop} (hx : X F_precentorlaw11_SubsMap [l_a0, m_a1] = none) (q : Tells (fun m => S_precentorlaw11_SubsMap Try.prog (acallX Try.prog X m) m l_a0 m_a1 h) Q) :
    Tells (fun m => acallX Try.prog X m F_precentorlaw11_SubsMap [l_a0, m_a1] h) Q :=
  Tells.later (q.le fun m => (E_precentorlaw11_SubsMap (acallX Try.prog X m) m l_a0 m_a1 h) ▸ acallX_le Try.func5 hx m h)

/-! ### precentor/precentorlaw11.SubsOwn -/
def J_precentorlaw11_SubsOwn_3 (P : Program) (call : FuncId → List AVal → Heap → Res AVal) (fuel : Nat) (k : Kn (AVal)) (t : T) (h : Heap) : Res (AVal) :=
arb (.val (.bool true) h) call fun v_36 h37 =>
k .ret (upd t 4 v_36) h37

def J_precentorlaw11_SubsOwn_6 (P : Program) (call : FuncId → List AVal → Heap → Res AVal) (fuel : Nat) (k : Kn (Ex × T)) (t : T) (h : Heap) : Res (Ex × T) :=
arb (.val (t 13) h) call fun v_42 h43 =>
arb (.of (aBin P .add 3 (.tmp 78) (.const (.int .i64 1)) v_42 (.int .i64 1)) h43) call fun v_44 h45 =>
arb (.val v_44 h45) call fun i_46 h47 =>
k .normal (upd (upd (upd t 78 v_42) 79 v_44) 13 i_46) h47

def J_precentorlaw11_SubsOwn_10 (P : Program) (call : FuncId → List AVal → Heap → Res AVal) (fuel : Nat) (k : Kn (Ex × T)) (t : T) (h : Heap) : Res (Ex × T) :=
arb (.val (t 14) h) call fun v_53 h54 =>
arb (.of (aBin P .add 3 (.tmp 99) (.const (.int .i64 1)) v_53 (.int .i64 1)) h54) call fun v_55 h56 =>
arb (.val v_55 h56) call fun k_57 h58 =>
k .normal (upd (upd (upd t 99 v_53) 100 v_55) 14 k_57) h58

def J_precentorlaw11_SubsOwn_9 (P : Program) (call : FuncId → List AVal → Heap → Res AVal) (fuel : Nat) (k : Kn (Ex × T)) (t : T) (h : Heap) : Res (Ex × T) :=
lt (sqK (J_precentorlaw11_SubsOwn_10 P call fuel k) k) fun k59 =>
lt (blkK 7 k59) fun k60 =>
arb (.val (t 6) h) call fun v_61 h62 =>
arb (.val (t 13) h62) call fun v_63 h64 =>
arb (.of (ixsR 4 v_61 v_63) h64) call fun v_65 h66 =>
arb (.of (fadR 3 v_65) h66) call fun v_67 h68 =>
arb (.of (ld1 h68 v_67) h68) call fun v_69 h70 =>
arb (.val (t 14) h70) call fun v_71 h72 =>
arb (.of (ixsR 13 v_69 v_71) h72) call fun v_73 h74 =>
arb (.of (fadR 0 v_73) h74) call fun v_75 h76 =>
arb (.of (ld1 h76 v_75) h76) call fun v_77 h78 =>
arb (.of (aBin P .eql 9 (.tmp 109) (.const (.string (bs [116, 117, 114, 110, 101, 100]))) v_77 (.str (bs [116, 117, 114, 110, 101, 100]))) h78) call fun v_79 h80 =>
cb v_79 (
arb (.val (.bool false) h80) call fun v_81 h82 =>
k60 .ret (upd (upd (upd (upd (upd (upd (upd (upd (upd (upd (upd t 101 v_61) 102 v_63) 103 v_65) 104 v_67) 105 v_69) 106 v_71) 107 v_73) 108 v_75) 109 v_77) 110 v_79) 4 v_81) h82) (
k60 .normal (upd (upd (upd (upd (upd (upd (upd (upd (upd (upd t 101 v_61) 102 v_63) 103 v_65) 104 v_67) 105 v_69) 106 v_71) 107 v_73) 108 v_75) 109 v_77) 110 v_79) h80)

def L_precentorlaw11_SubsOwn_8 (P : Program) (call : FuncId → List AVal → Heap → Res AVal) (fuel : Nat) (t : T) (h : Heap) : Res (Ex × T) :=
lt okK fun k =>
lt (sqK (J_precentorlaw11_SubsOwn_9 P call fuel k) k) fun k83 =>
arb (.val (t 14) h) call fun v_84 h85 =>
arb (.val (t 6) h85) call fun v_86 h87 =>
arb (.val (t 13) h87) call fun v_88 h89 =>
arb (.of (ixsR 4 v_86 v_88) h89) call fun v_90 h91 =>
arb (.of (fadR 3 v_90) h91) call fun v_92 h93 =>
arb (.of (ld1 h93 v_92) h93) call fun v_94 h95 =>
arb (.of (lenL v_94) h95) call fun v_96 h97 =>
arb (.of (aBin P .lss 3 (.tmp 91) (.tmp 97) v_84 v_96) h97) call fun v_98 h99 =>
cb v_98 (
k83 .normal (upd (upd (upd (upd (upd (upd (upd (upd t 91 v_84) 92 v_86) 93 v_88) 94 v_90) 95 v_92) 96 v_94) 97 v_96) 98 v_98) h99) (
k83 (.exit 6) (upd (upd (upd (upd (upd (upd (upd (upd t 91 v_84) 92 v_86) 93 v_88) 94 v_90) 95 v_92) 96 v_94) 97 v_96) 98 v_98) h99)

def J_precentorlaw11_SubsOwn_7 (P : Program) (call : FuncId → List AVal → Heap → Res AVal) (fuel : Nat) (k : Kn (Ex × T)) (t : T) (h : Heap) : Res (Ex × T) :=
arb (.val (.int .i64 0) h) call fun k_50 h51 =>
lt (blkK 6 k) fun k52 =>
(loopN (L_precentorlaw11_SubsOwn_8 P call fuel) fuel (upd t 14 k_50) h51).bind (lpK k52)

def J_precentorlaw11_SubsOwn_5 (P : Program) (call : FuncId → List AVal → Heap → Res AVal) (fuel : Nat) (k : Kn (Ex × T)) (t : T) (h : Heap) : Res (Ex × T) :=
lt (sqK (J_precentorlaw11_SubsOwn_6 P call fuel k) k) fun k48 =>
lt (blkK 5 k48) fun k49 =>
lt (sqK (J_precentorlaw11_SubsOwn_7 P call fuel k49) k49) fun k100 =>
obv (.val (t 6) h) fun v_101 =>
obv (.val (t 13) h) fun v_102 =>
obv (.of (ixsR 4 v_101 v_102) h) fun v_103 =>
obv (.of (fadR 2 v_103) h) fun v_104 =>
obv (.of (ld1 h v_104) h) fun v_105 =>
obv (.val (t 7) h) fun v_106 =>
obv (.val (t 13) h) fun v_107 =>
obv (.of (ixsR 4 v_106 v_107) h) fun v_108 =>
obv (.of (fadR 2 v_108) h) fun v_109 =>
obv (.of (ld1 h v_109) h) fun v_110 =>
obv (.of (aBin P .neq 3 (.tmp 84) (.tmp 89) v_105 v_110) h) fun v_111 =>
cb v_111 (
arb (.val (.bool false) h) call fun v_112 h113 =>
k100 .ret (upd (upd (upd (upd (upd (upd (upd (upd (upd (upd (upd (upd t 80 v_101) 81 v_102) 82 v_103) 83 v_104) 84 v_105) 85 v_106) 86 v_107) 87 v_108) 88 v_109) 89 v_110) 90 v_111) 4 v_112) h113) (
k100 .normal (upd (upd (upd (upd (upd (upd (upd (upd (upd (upd (upd t 80 v_101) 81 v_102) 82 v_103) 83 v_104) 84 v_105) 85 v_106) 86 v_107) 87 v_108) 88 v_109) 89 v_110) 90 v_111) h)

def L_precentorlaw11_SubsOwn_4 (P : Program) (call : FuncId → List AVal → Heap → Res AVal) (fuel : Nat) (t : T) (h : Heap) : Res (Ex × T) :=
lt okK fun k =>
lt (sqK (J_precentorlaw11_SubsOwn_5 P call fuel k) k) fun k114 =>
arb (.val (t 13) h) call fun v_115 h116 =>
arb (.val (t 6) h116) call fun v_117 h118 =>
arb (.of (lenL v_117) h118) call fun v_119 h120 =>
arb (.of (aBin P .lss 3 (.tmp 74) (.tmp 76) v_115 v_119) h120) call fun v_121 h122 =>
cb v_121 (
k114 .normal (upd (upd (upd (upd t 74 v_115) 75 v_117) 76 v_119) 77 v_121) h122) (
k114 (.exit 4) (upd (upd (upd (upd t 74 v_115) 75 v_117) 76 v_119) 77 v_121) h122)

def J_precentorlaw11_SubsOwn_2 (P : Program) (call : FuncId → List AVal → Heap → Res AVal) (fuel : Nat) (k : Kn (AVal)) (t : T) (h : Heap) : Res (AVal) :=
lt (sqK (J_precentorlaw11_SubsOwn_3 P call fuel k) k) fun k38 =>
arb (.val (.int .i64 0) h) call fun i_39 h40 =>
lt (blkK 4 k38) fun k41 =>
(loopN (L_precentorlaw11_SubsOwn_4 P call fuel) fuel (upd t 13 i_39) h40).bind (lpK k41)

def J_precentorlaw11_SubsOwn_13 (P : Program) (call : FuncId → List AVal → Heap → Res AVal) (fuel : Nat) (k : Kn (Ex × T)) (t : T) (h : Heap) : Res (Ex × T) :=
arb (.val (t 12) h) call fun v_127 h128 =>
arb (.of (aBin P .add 3 (.tmp 68) (.const (.int .i64 1)) v_127 (.int .i64 1)) h128) call fun v_129 h130 =>
arb (.val v_129 h130) call fun i_131 h132 =>
k .normal (upd (upd (upd t 68 v_127) 69 v_129) 12 i_131) h132

def J_precentorlaw11_SubsOwn_12 (P : Program) (call : FuncId → List AVal → Heap → Res AVal) (fuel : Nat) (k : Kn (Ex × T)) (t : T) (h : Heap) : Res (Ex × T) :=
lt (sqK (J_precentorlaw11_SubsOwn_13 P call fuel k) k) fun k133 =>
lt (blkK 3 k133) fun k134 =>
arb (.val (t 11) h) call fun v_135 h136 =>
arb (.val (t 12) h136) call fun v_137 h138 =>
arb (.of (ixsR 4 v_135 v_137) h138) call fun v_139 h140 =>
arb (.of (fadR 2 v_139) h140) call fun v_141 h142 =>
arb (stR 1 h142 v_141 (.int .i64 77)) call fun v_143 h144 =>
k134 .normal (upd (upd (upd (upd t 70 v_135) 71 v_137) 72 v_139) 73 v_141) h144

def L_precentorlaw11_SubsOwn_11 (P : Program) (call : FuncId → List AVal → Heap → Res AVal) (fuel : Nat) (t : T) (h : Heap) : Res (Ex × T) :=
lt okK fun k =>
lt (sqK (J_precentorlaw11_SubsOwn_12 P call fuel k) k) fun k145 =>
arb (.val (t 12) h) call fun v_146 h147 =>
arb (.val (t 11) h147) call fun v_148 h149 =>
arb (.of (lenL v_148) h149) call fun v_150 h151 =>
arb (.of (aBin P .lss 3 (.tmp 64) (.tmp 66) v_146 v_150) h151) call fun v_152 h153 =>
cb v_152 (
k145 .normal (upd (upd (upd (upd t 64 v_146) 65 v_148) 66 v_150) 67 v_152) h153) (
k145 (.exit 2) (upd (upd (upd (upd t 64 v_146) 65 v_148) 66 v_150) 67 v_152) h153)

def J_precentorlaw11_SubsOwn_1 (P : Program) (call : FuncId → List AVal → Heap → Res AVal) (fuel : Nat) (k : Kn (AVal)) (t : T) (h : Heap) : Res (AVal) :=
arb (.val (t 6) h) call fun v_30 h31 =>
arb (.call F_subs_Of [v_30, (.int .i64 1)] h31) call fun v_32 h33 =>
arb (.val v_32 h33) call fun c_34 h35 =>
lt (sqK (J_precentorlaw11_SubsOwn_2 P call fuel k) k) fun k123 =>
arb (.val (.int .i64 0) h35) call fun i_124 h125 =>
lt (blkK 2 k123) fun k126 =>
(loopN (L_precentorlaw11_SubsOwn_11 P call fuel) fuel (upd (upd (upd (upd t 62 v_30) 63 v_32) 11 c_34) 12 i_124) h125).bind (lpK k126)

def J_precentorlaw11_SubsOwn_16 (P : Program) (call : FuncId → List AVal → Heap → Res AVal) (fuel : Nat) (k : Kn (Ex × T)) (t : T) (h : Heap) : Res (Ex × T) :=
arb (.val (t 10) h) call fun v_184 h185 =>
arb (.of (aBin P .add 3 (.tmp 52) (.const (.int .i64 1)) v_184 (.int .i64 1)) h185) call fun v_186 h187 =>
arb (.val v_186 h187) call fun i_188 h189 =>
k .normal (upd (upd (upd t 52 v_184) 53 v_186) 10 i_188) h189

def J_precentorlaw11_SubsOwn_15 (P : Program) (call : FuncId → List AVal → Heap → Res AVal) (fuel : Nat) (k : Kn (Ex × T)) (t : T) (h : Heap) : Res (Ex × T) :=
lt (sqK (J_precentorlaw11_SubsOwn_16 P call fuel k) k) fun k190 =>
lt (blkK 1 k190) fun k191 =>
arb (.val (t 8) h) call fun v_192 h193 =>
arb (.val (t 9) h193) call fun v_194 h195 =>
arb (.of (ixsR 4 v_192 v_194) h195) call fun v_196 h197 =>
arb (.of (fadR 3 v_196) h197) call fun v_198 h199 =>
arb (.of (ld1 h199 v_198) h199) call fun v_200 h201 =>
arb (.val (t 10) h201) call fun v_202 h203 =>
arb (.of (ixsR 13 v_200 v_202) h203) call fun v_204 h205 =>
arb (.of (fadR 0 v_204) h205) call fun v_206 h207 =>
arb (stR 1 h207 v_206 (.str (bs [116, 117, 114, 110, 101, 100]))) call fun v_208 h209 =>
k191 .normal (upd (upd (upd (upd (upd (upd (upd (upd t 54 v_192) 55 v_194) 56 v_196) 57 v_198) 58 v_200) 59 v_202) 60 v_204) 61 v_206) h209

def L_precentorlaw11_SubsOwn_14 (P : Program) (call : FuncId → List AVal → Heap → Res AVal) (fuel : Nat) (t : T) (h : Heap) : Res (Ex × T) :=
lt okK fun k =>
lt (sqK (J_precentorlaw11_SubsOwn_15 P call fuel k) k) fun k210 =>
arb (.val (t 10) h) call fun v_211 h212 =>
arb (.val (t 8) h212) call fun v_213 h214 =>
arb (.val (t 9) h214) call fun v_215 h216 =>
arb (.of (ixsR 4 v_213 v_215) h216) call fun v_217 h218 =>
arb (.of (fadR 3 v_217) h218) call fun v_219 h220 =>
arb (.of (ld1 h220 v_219) h220) call fun v_221 h222 =>
arb (.of (lenL v_221) h222) call fun v_223 h224 =>
arb (.of (aBin P .lss 3 (.tmp 44) (.tmp 50) v_211 v_223) h224) call fun v_225 h226 =>
cb v_225 (
k210 .normal (upd (upd (upd (upd (upd (upd (upd (upd t 44 v_211) 45 v_213) 46 v_215) 47 v_217) 48 v_219) 49 v_221) 50 v_223) 51 v_225) h226) (
k210 (.exit 0) (upd (upd (upd (upd (upd (upd (upd (upd t 44 v_211) 45 v_213) 46 v_215) 47 v_217) 48 v_219) 49 v_221) 50 v_223) 51 v_225) h226)

def J_precentorlaw11_SubsOwn_0 (P : Program) (call : FuncId → List AVal → Heap → Res AVal) (fuel : Nat) (k : Kn (AVal)) (t : T) (h : Heap) : Res (AVal) :=
lt (sqK (J_precentorlaw11_SubsOwn_1 P call fuel k) k) fun k154 =>
arb (.val (t 8) h) call fun v_155 h156 =>
arb (.of (lenL v_155) h156) call fun v_157 h158 =>
arb (.of (aBin P .gtr 3 (.tmp 34) (.const (.int .i64 0)) v_157 (.int .i64 0)) h158) call fun v_159 h160 =>
cb v_159 (
arb (.val (t 1) h160) call fun v_161 h162 =>
arb (.val (t 8) h162) call fun v_163 h164 =>
arb (.of (lenL v_163) h164) call fun v_165 h166 =>
arb (.call F_precentorhand_Pick [v_161, v_165] h166) call fun v_167 h168 =>
arb (.val v_167 h168) call fun k_169 h170 =>
arb (.val (t 8) h170) call fun v_171 h172 =>
arb (.val k_169 h172) call fun v_173 h174 =>
arb (.of (ixsR 4 v_171 v_173) h174) call fun v_175 h176 =>
arb (.of (fadR 2 v_175) h176) call fun v_177 h178 =>
arb (stR 1 h178 v_177 (.int .i64 99)) call fun v_179 h180 =>
arb (.val (.int .i64 0) h180) call fun i_181 h182 =>
lt (blkK 0 k154) fun k183 =>
(loopN (L_precentorlaw11_SubsOwn_14 P call fuel) fuel (upd (upd (upd (upd (upd (upd (upd (upd (upd (upd (upd (upd (upd t 33 v_155) 34 v_157) 35 v_159) 36 v_161) 37 v_163) 38 v_165) 39 v_167) 9 k_169) 40 v_171) 41 v_173) 42 v_175) 43 v_177) 10 i_181) h182).bind (lpK k183)) (
k154 .normal (upd (upd (upd t 33 v_155) 34 v_157) 35 v_159) h160)

def S_precentorlaw11_SubsOwn (P : Program) (call : FuncId → List AVal → Heap → Res AVal) (fuel : Nat) (l_a0 at_a1 : AVal) (h : Heap) : Res AVal :=
lt (retK P [.tmp 4]) fun k =>
arb (.val (.bool false) h) call fun v_0 h1 =>
arb (.val l_a0 h1) call fun v_2 h3 =>
arb (.of (bldR [.nils, (.int .i64 0)] [(0, 1, v_2)]) h3) call fun v_4 h5 =>
arb (boxR v_4 h5) call fun v_6 h7 =>
arb (.val v_6 h7) call fun f_8 h9 =>
arb (.val f_8 h9) call fun v_10 h11 =>
arb (.call F_precentorhand_Feed_Subs [v_10, .nils] h11) call fun v_12 h13 =>
arb (.val v_12 h13) call fun a_14 h15 =>
arb (bslR 4 [] 0 h15 []) call fun v_16 h17 =>
arb (.val a_14 h17) call fun v_18 h19 =>
arb (appR 4 48 h19 v_16 v_18) call fun v_20 h21 =>
arb (.val v_20 h21) call fun was_22 h23 =>
arb (.val a_14 h23) call fun v_24 h25 =>
arb (.call F_subs_Apply [v_24, .nils] h25) call fun v_26 h27 =>
arb (.val v_26 h27) call fun b_28 h29 =>
lt (sqK (J_precentorlaw11_SubsOwn_0 P call fuel k) k) fun k227 =>
arb (.call F_precentorlaw11_known [] h29) call fun v_228 h229 =>
arb (.of (aUn P .not v_228) h229) call fun v_230 h231 =>
arb (.val v_230 h231) call fun v_232 h233 =>
gd (wantB v_232 false) (fun c => arb (.val a_14 h233) call c) h233 fun v_234 h235 =>
gd (wantB v_232 false) (fun c => arb (.val b_28 h235) call c) h235 fun v_236 h237 =>
gd (wantB v_232 false) (fun c => arb (.call F_subs_Same [v_234, v_236] h237) call c) h237 fun v_238 h239 =>
gd (wantB v_232 false) (fun c => arb (.of (aUn P .not v_238) h239) call c) h239 fun v_240 h241 =>
arb (pkR v_232 (.bool true) v_240 h241) call fun v_242 h243 =>
cb v_242 (
arb (.val (.bool false) h243) call fun v_244 h245 =>
k227 .ret (upd (upd (upd (upd (upd (upd (upd (upd (upd (upd (upd (upd (upd (upd (upd (upd (upd (upd (upd (upd (upd (upd (upd (upd (enterT [l_a0, at_a1]) 4 v_0) 15 v_2) 16 v_4) 17 v_6) 5 f_8) 18 v_10) 19 v_12) 6 a_14) 20 v_16) 21 v_18) 22 v_20) 7 was_22) 23 v_24) 24 v_26) 8 b_28) 25 v_228) 26 v_230) 27 v_232) 28 v_234) 29 v_236) 30 v_238) 31 v_240) 32 v_242) 4 v_244) h245) (
k227 .normal (upd (upd (upd (upd (upd (upd (upd (upd (upd (upd (upd (upd (upd (upd (upd (upd (upd (upd (upd (upd (upd (upd (upd (enterT [l_a0, at_a1]) 4 v_0) 15 v_2) 16 v_4) 17 v_6) 5 f_8) 18 v_10) 19 v_12) 6 a_14) 20 v_16) 21 v_18) 22 v_20) 7 was_22) 23 v_24) 24 v_26) 8 b_28) 25 v_228) 26 v_230) 27 v_232) 28 v_234) 29 v_236) 30 v_238) 31 v_240) 32 v_242) h243)
theorem E_precentorlaw11_SubsOwn (call : FuncId → List AVal → Heap → Res AVal) (fuel : Nat) (l_a0 at_a1 : AVal) (h : Heap) : bodyR Try.prog call fuel Try.f6 [l_a0, at_a1] h = S_precentorlaw11_SubsOwn Try.prog call fuel l_a0 at_a1 h := by kernel_rfl
theorem R_precentorlaw11_SubsOwn {X : XTab} (l_a0 at_a1 : AVal) {h : Heap} {Q : AVal → Heap → Prop} (hx : X F_precentorlaw11_SubsOwn [l_a0, at_a1] = none) (q : Tells (fun m => S_precentorlaw11_SubsOwn Try.prog (acallX Try.prog X m) m l_a0 at_a1 h) Q) :
    Tells (fun m => acallX Try.prog X m F_precentorlaw11_SubsOwn [l_a0, at_a1] h) Q :=
  Tells.later (q.le fun m => (E_precentorlaw11_SubsOwn (acallX Try.prog X m) m l_a0 at_a1 h) ▸ acallX_le Try.func6 hx m h)

/-! ### precentor/precentorlaw11.sub -/

theorem C_precentorlaw11_sub_0 (h : Heap) (a : AVal) : aLoad Try.prog h 24 a = ldn 4 h a := by kernel_rfl
def S_precentorlaw11_sub (P : Program) (call : FuncId → List AVal → Heap → Res AVal) (fuel : Nat) (client_a0 broker_a1 num_a2 : AVal) (h : Heap) : Res AVal :=
lt (retK P [.cell 6 24]) fun k =>
arb (newR [(.int .i64 0), (.int .i64 0), (.int .i64 0), .nils] h) call fun v_0 h1 =>
arb (.val client_a0 h1) call fun v_2 h3 =>
arb (.val broker_a1 h3) call fun v_4 h5 =>
arb (.val num_a2 h5) call fun v_6 h7 =>
arb (.of (bldR [(.int .i64 0), (.int .i64 0), (.int .i64 0), .nils] [(0, 1, v_2), (1, 1, v_4), (2, 1, v_6)]) h7) call fun v_8 h9 =>
arb (stR 4 h9 v_0 v_8) call fun v_10 h11 =>
k .ret (upd (upd (upd (upd (upd (enterT [client_a0, broker_a1, num_a2]) 6 v_0) 7 v_2) 8 v_4) 9 v_6) 10 v_8) h11
theorem E_precentorlaw11_sub (call : FuncId → List AVal → Heap → Res AVal) (fuel : Nat) (client_a0 broker_a1 num_a2 : AVal) (h : Heap) : bodyR Try.prog call fuel Try.f7 [client_a0, broker_a1, num_a2] h = S_precentorlaw11_sub Try.prog call fuel client_a0 broker_a1 num_a2 h := by kernel_rfl
theorem R_precentorlaw11_sub {X : XTab} (client_a0 broker_a1 num_a2 : AVal) {h : Heap} {Q : AVal → Heap → Prop} (hx : X F_precentorlaw11_sub [client_a0, broker_a1, num_a2] = none) (q : Tells (fun m => S_precentorlaw11_sub Try.prog (acallX Try.prog X m) m client_a0 broker_a1 num_a2 h) Q) :
    Tells (fun m => acallX Try.prog X m F_precentorlaw11_sub [client_a0, broker_a1, num_a2] h) Q :=
  Tells.later (q.le fun m => (E_precentorlaw11_sub (acallX Try.prog X m) m client_a0 broker_a1 num_a2 h) ▸ acallX_le Try.func7 hx m h)

/-! ### precentor/precentorlaw11.some -/
def J_precentorlaw11_some_0 (P : Program) (call : FuncId → List AVal → Heap → Res AVal) (fuel : Nat) (k : Kn (AVal)) (t : T) (h : Heap) : Res (AVal) :=
arb (.val (t 5) h) call fun v_10 h11 =>
arb (.val v_10 h11) call fun v_12 h13 =>
k .ret (upd (upd t 79 v_10) 4 v_12) h13

def S_precentorlaw11_some (P : Program) (call : FuncId → List AVal → Heap → Res AVal) (fuel : Nat) (f_a0 n_a1 : AVal) (h : Heap) : Res AVal :=
lt (retK P [.tmp 4]) fun k =>
arb (.val .nils h) call fun v_0 h1 =>
arb (.val f_a0 h1) call fun v_2 h3 =>
arb (bslR 1 [(.int .i64 0), (.int .i64 0), (.int .i64 0)] 3 h3 [(0, 1, (.int .i64 0)), (1, 1, (.int .i64 0)), (2, 1, (.int .i64 1))]) call fun v_4 h5 =>
arb (.call F_precentorhand_Feed_Subs [v_2, v_4] h5) call fun v_6 h7 =>
arb (.val v_6 h7) call fun l_8 h9 =>
lt (sqK (J_precentorlaw11_some_0 P call fuel k) k) fun k14 =>
arb (.val l_8 h9) call fun v_15 h16 =>
arb (.of (lenL v_15) h16) call fun v_17 h18 =>
arb (.of (aBin P .gtr 3 (.tmp 11) (.const (.int .i64 1)) v_17 (.int .i64 1)) h18) call fun v_19 h20 =>
arb (.val v_19 h20) call fun v_21 h22 =>
gd (wantB v_21 true) (fun c => arb (.val f_a0 h22) call c) h22 fun v_23 h24 =>
gd (wantB v_21 true) (fun c => arb (.call F_precentorhand_Feed_Next [v_23, (.int .i64 3)] h24) call c) h24 fun v_25 h26 =>
gd (wantB v_21 true) (fun c => arb (.of (aBin P .eql 3 (.tmp 15) (.const (.int .i64 0)) v_25 (.int .i64 0)) h26) call c) h26 fun v_27 h28 =>
arb (pkR v_21 v_27 (.bool false) h28) call fun v_29 h30 =>
cb v_29 (
arb (.val f_a0 h30) call fun v_31 h32 =>
arb (.val l_8 h32) call fun v_33 h34 =>
arb (.of (lenL v_33) h34) call fun v_35 h36 =>
arb (.of (aBin P .sub 3 (.tmp 20) (.const (.int .i64 1)) v_35 (.int .i64 1)) h36) call fun v_37 h38 =>
arb (.call F_precentorhand_Feed_Next [v_31, v_37] h38) call fun v_39 h40 =>
arb (.of (aBin P .add 3 (.const (.int .i64 1)) (.tmp 22) (.int .i64 1) v_39) h40) call fun v_41 h42 =>
arb (.val v_41 h42) call fun k_43 h44 =>
arb (.val f_a0 h44) call fun v_45 h46 =>
arb (.call F_precentorhand_Feed_Next [v_45, (.int .i64 5)] h46) call fun v_47 h48 =>
lt (blkK 0 k14) fun k49 =>
arb (.of (aBin P .eql 3 (.tmp 25) (.const (.int .i64 0)) v_47 (.int .i64 0)) h48) call fun v_50 h51 =>
arb (.val v_50 h51) call fun v_52 h53 =>
cb v_52 (
obv (.val l_8 h53) fun v_54 =>
obv (.val k_43 h53) fun v_56 =>
obv (.val l_8 h53) fun v_58 =>
obv (.val k_43 h53) fun v_60 =>
obv (.of (aBin P .sub 3 (.tmp 38) (.const (.int .i64 1)) v_60 (.int .i64 1)) h53) fun v_62 =>
obv (.val l_8 h53) fun v_64 =>
obv (.val k_43 h53) fun v_66 =>
obv (.of (aBin P .sub 3 (.tmp 41) (.const (.int .i64 1)) v_66 (.int .i64 1)) h53) fun v_68 =>
obv (.of (ixsR 4 v_64 v_68) h53) fun v_70 =>
obv (.of (ldn 4 h53 v_70) h53) fun v_72 => ifb true <|
obv (.val l_8 h53) fun v_74 =>
obv (.val k_43 h53) fun v_76 =>
obv (.of (ixsR 4 v_74 v_76) h53) fun v_78 =>
obv (.of (ldn 4 h53 v_78) h53) fun v_80 => ifb true <|
obv (.of (ixsR 4 v_54 v_56) h53) fun v_82 =>
arbE (stR 4 h53 v_82 v_72) call fun v_84 h85 => lt h85 fun g85 => ifb (true && true) <|
obv (.of (ixsR 4 v_58 v_62) g85) fun v_86 =>
arbE (stR 4 g85 v_86 v_80) call fun v_88 h89 => lt h89 fun g89 => ifb (true && true) <|
k49 .normal (upd (upd (upd (upd (upd (upd (upd (upd (upd (upd (upd (upd (upd (upd (upd (upd (upd (upd (upd (upd (upd (upd (upd (upd (upd (upd (upd (upd (upd (upd (upd (upd (upd (upd (upd (upd (upd (upd (upd (upd (enterT [f_a0, n_a1]) 4 v_0) 7 v_2) 8 v_4) 9 v_6) 5 l_8) 10 v_15) 11 v_17) 12 v_19) 13 v_21) 14 v_23) 15 v_25) 16 v_27) 17 v_29) 18 v_31) 19 v_33) 20 v_35) 21 v_37) 22 v_39) 23 v_41) 6 k_43) 24 v_45) 25 v_47) 34 v_50) 33 v_52) 35 v_54) 36 v_56) 37 v_58) 38 v_60) 39 v_62) 40 v_64) 41 v_66) 42 v_68) 43 v_70) 44 v_72) 45 v_74) 46 v_76) 47 v_78) 48 v_80) 49 v_82) 50 v_86) g89) (
arb (.of (aBin P .eql 3 (.tmp 25) (.const (.int .i64 1)) v_47 (.int .i64 1)) h53) call fun v_90 h91 =>
arb (.val v_90 h91) call fun v_92 h93 =>
cb v_92 (
arb (.val l_8 h93) call fun v_94 h95 =>
arb (.val k_43 h95) call fun v_96 h97 =>
arb (.val l_8 h97) call fun v_98 h99 =>
arb (.val k_43 h99) call fun v_100 h101 =>
arb (.of (aBin P .sub 3 (.tmp 56) (.const (.int .i64 1)) v_100 (.int .i64 1)) h101) call fun v_102 h103 =>
arb (.of (ixsR 4 v_98 v_102) h103) call fun v_104 h105 =>
arb (.of (fadR 0 v_104) h105) call fun v_106 h107 =>
arb (.of (ld1 h107 v_106) h107) call fun v_108 h109 =>
arb (.of (ixsR 4 v_94 v_96) h109) call fun v_110 h111 =>
arb (.of (fadR 0 v_110) h111) call fun v_112 h113 =>
arb (stR 1 h113 v_112 v_108) call fun v_114 h115 =>
k49 .normal (upd (upd (upd (upd (upd (upd (upd (upd (upd (upd (upd (upd (upd (upd (upd (upd (upd (upd (upd (upd (upd (upd (upd (upd (upd (upd (upd (upd (upd (upd (upd (upd (upd (upd (upd (upd (enterT [f_a0, n_a1]) 4 v_0) 7 v_2) 8 v_4) 9 v_6) 5 l_8) 10 v_15) 11 v_17) 12 v_19) 13 v_21) 14 v_23) 15 v_25) 16 v_27) 17 v_29) 18 v_31) 19 v_33) 20 v_35) 21 v_37) 22 v_39) 23 v_41) 6 k_43) 24 v_45) 25 v_47) 34 v_50) 33 v_52) 52 v_90) 51 v_92) 53 v_94) 54 v_96) 55 v_98) 56 v_100) 57 v_102) 58 v_104) 59 v_106) 60 v_108) 61 v_110) 62 v_112) h115) (
arb (.of (aBin P .eql 3 (.tmp 25) (.const (.int .i64 2)) v_47 (.int .i64 2)) h93) call fun v_116 h117 =>
arb (.val v_116 h117) call fun v_118 h119 =>
cb v_118 (
arb (.val l_8 h119) call fun v_120 h121 =>
arb (.val k_43 h121) call fun v_122 h123 =>
arb (.val n_a1 h123) call fun v_124 h125 =>
arb (.of (ixsR 4 v_120 v_122) h125) call fun v_126 h127 =>
arb (.of (fadR 2 v_126) h127) call fun v_128 h129 =>
arb (stR 1 h129 v_128 v_124) call fun v_130 h131 =>
k49 .normal (upd (upd (upd (upd (upd (upd (upd (upd (upd (upd (upd (upd (upd (upd (upd (upd (upd (upd (upd (upd (upd (upd (upd (upd (upd (upd (upd (upd (upd (upd (upd (upd (upd (enterT [f_a0, n_a1]) 4 v_0) 7 v_2) 8 v_4) 9 v_6) 5 l_8) 10 v_15) 11 v_17) 12 v_19) 13 v_21) 14 v_23) 15 v_25) 16 v_27) 17 v_29) 18 v_31) 19 v_33) 20 v_35) 21 v_37) 22 v_39) 23 v_41) 6 k_43) 24 v_45) 25 v_47) 34 v_50) 33 v_52) 52 v_90) 51 v_92) 64 v_116) 63 v_118) 65 v_120) 66 v_122) 67 v_124) 68 v_126) 69 v_128) h131) (
arb (.of (aBin P .eql 3 (.tmp 25) (.const (.int .i64 3)) v_47 (.int .i64 3)) h119) call fun v_132 h133 =>
arb (.val v_132 h133) call fun v_134 h135 =>
cb v_134 (
arb (.val l_8 h135) call fun v_136 h137 =>
arb (.val k_43 h137) call fun v_138 h139 =>
arb (.val f_a0 h139) call fun v_140 h141 =>
arb (.call F_precentorhand_Feed_Next [v_140, (.int .i64 10)] h141) call fun v_142 h143 =>
arb (.of (aBin P .sub 3 (.tmp 75) (.const (.int .i64 1)) v_142 (.int .i64 1)) h143) call fun v_144 h145 =>
arb (.of (ixsR 4 v_136 v_138) h145) call fun v_146 h147 =>
arb (.of (fadR 1 v_146) h147) call fun v_148 h149 =>
arb (stR 1 h149 v_148 v_144) call fun v_150 h151 =>
k49 .normal (upd (upd (upd (upd (upd (upd (upd (upd (upd (upd (upd (upd (upd (upd (upd (upd (upd (upd (upd (upd (upd (upd (upd (upd (upd (upd (upd (upd (upd (upd (upd (upd (upd (upd (upd (upd (upd (enterT [f_a0, n_a1]) 4 v_0) 7 v_2) 8 v_4) 9 v_6) 5 l_8) 10 v_15) 11 v_17) 12 v_19) 13 v_21) 14 v_23) 15 v_25) 16 v_27) 17 v_29) 18 v_31) 19 v_33) 20 v_35) 21 v_37) 22 v_39) 23 v_41) 6 k_43) 24 v_45) 25 v_47) 34 v_50) 33 v_52) 52 v_90) 51 v_92) 64 v_116) 63 v_118) 71 v_132) 70 v_134) 72 v_136) 73 v_138) 74 v_140) 75 v_142) 76 v_144) 77 v_146) 78 v_148) h151) (
arb (.val l_8 h135) call fun v_152 h153 =>
arb (.val l_8 h153) call fun v_154 h155 =>
arb (.val k_43 h155) call fun v_156 h157 =>
arb (.of (ixsR 4 v_154 v_156) h157) call fun v_158 h159 =>
arb (.of (ldn 4 h159 v_158) h159) call fun v_160 h161 =>
arb (bslR 4 [(.int .i64 0), (.int .i64 0), (.int .i64 0), .nils] 1 h161 [(0, 4, v_160)]) call fun v_162 h163 =>
arb (appR 4 48 h163 v_152 v_162) call fun v_164 h165 =>
arb (.val v_164 h165) call fun l_166 h167 =>
k49 .normal (upd (upd (upd (upd (upd (upd (upd (upd (upd (upd (upd (upd (upd (upd (upd (upd (upd (upd (upd (upd (upd (upd (upd (upd (upd (upd (upd (upd (upd (upd (upd (upd (upd (upd (upd (upd (upd (upd (enterT [f_a0, n_a1]) 4 v_0) 7 v_2) 8 v_4) 9 v_6) 5 l_8) 10 v_15) 11 v_17) 12 v_19) 13 v_21) 14 v_23) 15 v_25) 16 v_27) 17 v_29) 18 v_31) 19 v_33) 20 v_35) 21 v_37) 22 v_39) 23 v_41) 6 k_43) 24 v_45) 25 v_47) 34 v_50) 33 v_52) 52 v_90) 51 v_92) 64 v_116) 63 v_118) 71 v_132) 70 v_134) 26 v_152) 27 v_154) 28 v_156) 29 v_158) 30 v_160) 31 v_162) 32 v_164) 5 l_166) h167))))) (
k14 .normal (upd (upd (upd (upd (upd (upd (upd (upd (upd (upd (upd (upd (upd (enterT [f_a0, n_a1]) 4 v_0) 7 v_2) 8 v_4) 9 v_6) 5 l_8) 10 v_15) 11 v_17) 12 v_19) 13 v_21) 14 v_23) 15 v_25) 16 v_27) 17 v_29) h30)
theorem E_precentorlaw11_some (call : FuncId → List AVal → Heap → Res AVal) (fuel : Nat) (f_a0 n_a1 : AVal) (h : Heap) : bodyR Try.prog call fuel Try.f14 [f_a0, n_a1] h = S_precentorlaw11_some Try.prog call fuel f_a0 n_a1 h := by kernel_rfl
theorem R_precentorlaw11_some {X : XTab} (f_a0 n_a1 : AVal) {h : Heap} {Q : AVal → Heap → Prop} (hx : X F_precentorlaw11_some [f_a0, n_a1] = none) (q : Tells (fun m => S_precentorlaw11_some Try.prog (acallX Try.prog X m) m f_a0 n_a1 h) Q) :
    Tells (fun m => acallX Try.prog X m F_precentorlaw11_some [f_a0, n_a1] h) Q :=
  Tells.later (q.le fun m => (E_precentorlaw11_some (acallX Try.prog X m) m f_a0 n_a1 h) ▸ acallX_le Try.func14 hx m h)

/-! ### precentor/precentorlaw11.changes -/
def J_precentorlaw11_changes_0 (P : Program) (call : FuncId → List AVal → Heap → Res AVal) (fuel : Nat) (k : Kn (AVal)) (t : T) (h : Heap) : Res (AVal) :=
arb (.val (t 3) h) call fun v_4 h5 =>
arb (.val v_4 h5) call fun v_6 h7 =>
k .ret (upd (upd t 27 v_4) 2 v_6) h7

def J_precentorlaw11_changes_3 (P : Program) (call : FuncId → List AVal → Heap → Res AVal) (fuel : Nat) (k : Kn (Ex × T)) (t : T) (h : Heap) : Res (Ex × T) :=
arb (.val (t 4) h) call fun v_16 h17 =>
arb (.of (aBin P .sub 3 (.tmp 9) (.const (.int .i64 1)) v_16 (.int .i64 1)) h17) call fun v_18 h19 =>
arb (.val v_18 h19) call fun n_20 h21 =>
k .normal (upd (upd (upd t 9 v_16) 10 v_18) 4 n_20) h21

def J_precentorlaw11_changes_2 (P : Program) (call : FuncId → List AVal → Heap → Res AVal) (fuel : Nat) (k : Kn (Ex × T)) (t : T) (h : Heap) : Res (Ex × T) :=
lt (sqK (J_precentorlaw11_changes_3 P call fuel k) k) fun k22 =>
lt (blkK 1 k22) fun k23 =>
arb (.val (t 3) h) call fun v_24 h25 =>
arb (.val (t 0) h25) call fun v_26 h27 =>
arb (.call F_precentorhand_Feed_Next [v_26, (.int .i64 2)] h27) call fun v_28 h29 =>
arb (.of (aBin P .eql 3 (.tmp 13) (.const (.int .i64 0)) v_28 (.int .i64 0)) h29) call fun v_30 h31 =>
arb (.val (t 0) h31) call fun v_32 h33 =>
arb (.call F_precentorhand_Feed_Next [v_32, (.int .i64 8)] h33) call fun v_34 h35 =>
arb (.val (t 0) h35) call fun v_36 h37 =>
arb (.call F_precentorhand_Feed_Next [v_36, (.int .i64 4)] h37) call fun v_38 h39 =>
arb (.val (t 0) h39) call fun v_40 h41 =>
arb (.call F_precentorhand_Feed_Next [v_40, (.int .i64 7)] h41) call fun v_42 h43 =>
arb (.val (t 0) h43) call fun v_44 h45 =>
arb (.call F_precentorhand_Feed_Filter [v_44] h45) call fun v_46 h47 =>
arb (.of (bldR [(.int .i64 0), (.int .i64 0), (.int .i64 0), .nils] [(0, 1, v_34), (1, 1, v_38), (2, 1, v_42), (3, 1, v_46)]) h47) call fun v_48 h49 =>
arb (.of (bldR [(.bool false), (.int .i64 0), (.int .i64 0), (.int .i64 0), .nils] [(0, 1, v_30), (1, 4, v_48)]) h49) call fun v_50 h51 =>
arb (bslR 5 [(.bool false), (.int .i64 0), (.int .i64 0), (.int .i64 0), .nils] 1 h51 [(0, 5, v_50)]) call fun v_52 h53 =>
arb (appR 5 56 h53 v_24 v_52) call fun v_54 h55 =>
arb (.val v_54 h55) call fun out_56 h57 =>
k23 .normal (upd (upd (upd (upd (upd (upd (upd (upd (upd (upd (upd (upd (upd (upd (upd (upd (upd t 11 v_24) 12 v_26) 13 v_28) 14 v_30) 15 v_32) 16 v_34) 17 v_36) 18 v_38) 19 v_40) 20 v_42) 21 v_44) 22 v_46) 23 v_48) 24 v_50) 25 v_52) 26 v_54) 3 out_56) h57

def L_precentorlaw11_changes_1 (P : Program) (call : FuncId → List AVal → Heap → Res AVal) (fuel : Nat) (t : T) (h : Heap) : Res (Ex × T) :=
lt okK fun k =>
lt (sqK (J_precentorlaw11_changes_2 P call fuel k) k) fun k58 =>
arb (.val (t 4) h) call fun v_59 h60 =>
arb (.of (aBin P .gtr 3 (.tmp 7) (.const (.int .i64 0)) v_59 (.int .i64 0)) h60) call fun v_61 h62 =>
cb v_61 (
k58 .normal (upd (upd t 7 v_59) 8 v_61) h62) (
k58 (.exit 0) (upd (upd t 7 v_59) 8 v_61) h62)

def S_precentorlaw11_changes (P : Program) (call : FuncId → List AVal → Heap → Res AVal) (fuel : Nat) (f_a0 : AVal) (h : Heap) : Res AVal :=
lt (retK P [.tmp 2]) fun k =>
arb (.val .nils h) call fun v_0 h1 =>
arb (.val .nils h1) call fun out_2 h3 =>
lt (sqK (J_precentorlaw11_changes_0 P call fuel k) k) fun k8 =>
arb (.val f_a0 h3) call fun v_9 h10 =>
arb (.call F_precentorhand_Feed_Next [v_9, (.int .i64 7)] h10) call fun v_11 h12 =>
arb (.val v_11 h12) call fun n_13 h14 =>
lt (blkK 0 k8) fun k15 =>
(loopN (L_precentorlaw11_changes_1 P call fuel) fuel (upd (upd (upd (upd (upd (enterT [f_a0]) 2 v_0) 3 out_2) 5 v_9) 6 v_11) 4 n_13) h14).bind (lpK k15)
theorem E_precentorlaw11_changes (call : FuncId → List AVal → Heap → Res AVal) (fuel : Nat) (f_a0 : AVal) (h : Heap) : bodyR Try.prog call fuel Try.f16 [f_a0] h = S_precentorlaw11_changes Try.prog call fuel f_a0 h := by kernel_rfl
theorem R_precentorlaw11_changes {X : XTab} (f_a0 : AVal) {h : Heap} {Q : AVal → Heap → Prop} (hx : X F_precentorlaw11_changes [f_a0] = none) (q : Tells (fun m => S_precentorlaw11_changes Try.prog (acallX Try.prog X m) m f_a0 h) Q) :
    Tells (fun m => acallX Try.prog X m F_precentorlaw11_changes [f_a0] h) Q :=
  Tells.later (q.le fun m => (E_precentorlaw11_changes (acallX Try.prog X m) m f_a0 h) ▸ acallX_le Try.func16 hx m h)

/-! ### precentor/precentorlaw11.known -/

def S_precentorlaw11_known (P : Program) (call : FuncId → List AVal → Heap → Res AVal) (fuel : Nat) (h : Heap) : Res AVal :=
lt (retK P [.tmp 0]) fun k =>
arb (.val (.bool false) h) call fun v_0 h1 =>
arb (.call F_precentorlaw11_SubsKnown [] h1) call fun v_2 h3 =>
arb (.val v_2 h3) call fun v_4 h5 =>
k .ret (upd (upd (upd (enterT []) 0 v_0) 1 v_2) 0 v_4) h5
theorem E_precentorlaw11_known (call : FuncId → List AVal → Heap → Res AVal) (fuel : Nat) (h : Heap) : bodyR Try.prog call fuel Try.f18 [] h = S_precentorlaw11_known Try.prog call fuel  h := by kernel_rfl
theorem R_precentorlaw11_known {X : XTab} {h : Heap} {Q : AVal → Heap → Prop} (hx : X F_precentorlaw11_known [] = none) (q : Tells (fun m => S_precentorlaw11_known Try.prog (acallX Try.prog X m) m  h) Q) :
    Tells (fun m => acallX Try.prog X m F_precentorlaw11_known [] h) Q :=
  Tells.later (q.le fun m => (E_precentorlaw11_known (acallX Try.prog X m) m  h) ▸ acallX_le Try.func18 hx m h)


end Go.Proofs.Ytooeiefgnhgbeaa
