/-
  Functions of precentorlaw3 in the form of YtjoniicebjpdaaaABS (printed by a program of ours, gen.lean).
-/
import Derived.Test.YtjoniicebjpdaaaSIds
set_option linter.unusedVariables false
namespace Go.Proofs.Ytjoniicebjpdaaa
open Go.Ab
/-! ### precentor/precentorlaw3.ValueTells -/
def J_precentorlaw3_ValueTells_2 (P : Program) (call : FuncId → List AVal → Heap → Res AVal) (fuel : Nat) (k : Kn (AVal)) (t : T) (h : Heap) : Res (AVal) :=
arb (.val (t 3) h) call fun v_46 h47 =>
arb (.call F_value_Int [v_46] h47) call fun v_48 h49 =>
arb (.val (t 4) h49) call fun v_50 h51 =>
arb (.call F_value_Float [v_50] h51) call fun v_52 h53 =>
arb (.val (t 5) h53) call fun v_54 h55 =>
arb (.call F_value_Text [v_54] h55) call fun v_56 h57 =>
arb (.val (t 6) h57) call fun v_58 h59 =>
arb (.call F_value_Bool [v_58] h59) call fun v_60 h61 =>
arb (newR [(.int .i64 0), (.int .i64 0), (.flt .f64 0), (.str (bs [])), (.bool false)] h61) call fun i_62 h63 =>
arb (newR [(.int .i64 0), (.int .i64 0), (.flt .f64 0), (.str (bs [])), (.bool false)] h63) call fun g_64 h65 =>
arb (newR [(.int .i64 0), (.int .i64 0), (.flt .f64 0), (.str (bs [])), (.bool false)] h65) call fun h_66 h67 =>
arb (newR [(.int .i64 0), (.int .i64 0), (.flt .f64 0), (.str (bs [])), (.bool false)] h67) call fun k_68 h69 =>
arb (stR 5 h69 i_62 v_48) call fun v_70 h71 =>
arb (stR 5 h71 g_64 v_52) call fun v_72 h73 =>
arb (stR 5 h73 h_66 v_56) call fun v_74 h75 =>
arb (stR 5 h75 k_68 v_60) call fun v_76 h77 =>
arb (.of (ldn 5 h77 i_62) h77) call fun v_78 h79 =>
arb (.val (t 3) h79) call fun v_80 h81 =>
arb (.of (bldR [(.int .i64 0), (.int .i64 0), (.flt .f64 0), (.str (bs [])), (.bool false)] [(0, 1, (.int .i64 1)), (1, 1, v_80)]) h81) call fun v_82 h83 =>
arb (.call F_precentorref1_SameValue [v_78, v_82] h83) call fun v_84 h85 =>
arb (.val v_84 h85) call fun v_86 h87 =>
gd (wantB v_86 true) (fun c => arb (.of (ldn 5 h87 g_64) h87) call c) h87 fun v_88 h89 =>
gd (wantB v_86 true) (fun c => arb (.val (t 4) h89) call c) h89 fun v_90 h91 =>
gd (wantB v_86 true) (fun c => arb (.of (bldR [(.int .i64 0), (.int .i64 0), (.flt .f64 0), (.str (bs [])), (.bool false)] [(0, 1, (.int .i64 2)), (2, 1, v_90)]) h91) call c) h91 fun v_92 h93 =>
gd (wantB v_86 true) (fun c => arb (.call F_precentorref1_SameValue [v_88, v_92] h93) call c) h93 fun v_94 h95 =>
arb (pkR v_86 v_94 (.bool false) h95) call fun v_96 h97 =>
arb (.val v_96 h97) call fun v_98 h99 =>
gd (wantB v_98 true) (fun c => arb (.of (ldn 5 h99 h_66) h99) call c) h99 fun v_100 h101 =>
gd (wantB v_98 true) (fun c => arb (.val (t 5) h101) call c) h101 fun v_102 h103 =>
gd (wantB v_98 true) (fun c => arb (.of (bldR [(.int .i64 0), (.int .i64 0), (.flt .f64 0), (.str (bs [])), (.bool false)] [(0, 1, (.int .i64 3)), (3, 1, v_102)]) h103) call c) h103 fun v_104 h105 =>
gd (wantB v_98 true) (fun c => arb (.call F_precentorref1_SameValue [v_100, v_104] h105) call c) h105 fun v_106 h107 =>
arb (pkR v_98 v_106 (.bool false) h107) call fun v_108 h109 =>
arb (.val v_108 h109) call fun v_110 h111 =>
gd (wantB v_110 true) (fun c => arb (.of (ldn 5 h111 k_68) h111) call c) h111 fun v_112 h113 =>
gd (wantB v_110 true) (fun c => arb (.val (t 6) h113) call c) h113 fun v_114 h115 =>
gd (wantB v_110 true) (fun c => arb (.of (bldR [(.int .i64 0), (.int .i64 0), (.flt .f64 0), (.str (bs [])), (.bool false)] [(0, 1, (.int .i64 4)), (4, 1, v_114)]) h115) call c) h115 fun v_116 h117 =>
gd (wantB v_110 true) (fun c => arb (.call F_precentorref1_SameValue [v_112, v_116] h117) call c) h117 fun v_118 h119 =>
arb (pkR v_110 v_118 (.bool false) h119) call fun v_120 h121 =>
arb (.val v_120 h121) call fun v_122 h123 =>
k .ret (upd (upd (upd (upd (upd (upd (upd (upd (upd (upd (upd (upd (upd (upd (upd (upd (upd (upd (upd (upd (upd (upd (upd (upd (upd (upd (upd (upd (upd (upd (upd (upd (upd (upd (upd t 87 v_46) 88 v_48) 89 v_50) 90 v_52) 91 v_54) 92 v_56) 93 v_58) 94 v_60) 20 i_62) 21 g_64) 22 h_66) 23 k_68) 95 v_78) 96 v_80) 97 v_82) 98 v_84) 99 v_86) 100 v_88) 101 v_90) 102 v_92) 103 v_94) 104 v_96) 105 v_98) 106 v_100) 107 v_102) 108 v_104) 109 v_106) 110 v_108) 111 v_110) 112 v_112) 113 v_114) 114 v_116) 115 v_118) 116 v_120) 14 v_122) h123

def J_precentorlaw3_ValueTells_1 (P : Program) (call : FuncId → List AVal → Heap → Res AVal) (fuel : Nat) (k : Kn (AVal)) (t : T) (h : Heap) : Res (AVal) :=
arb (.of (ldn 5 h (t 7)) h) call fun v_14 h15 =>
arb (.of (ldn 5 h15 (t 8)) h15) call fun v_16 h17 =>
arb (.call F_value_Cmp [v_14, v_16] h17) call fun v_18 h19 =>
arb (.val v_18 h19) call fun v_20 h21 =>
arb (extR v_20 0 h21) call fun v_22 h23 =>
arb (extR v_20 1 h23) call fun v_24 h25 =>
arb (.val v_22 h25) call fun c_26 h27 =>
arb (.val v_24 h27) call fun p_28 h29 =>
arb (.of (ldn 5 h29 (t 7)) h29) call fun v_30 h31 =>
arb (.of (ldn 5 h31 (t 8)) h31) call fun v_32 h33 =>
arb (.call F_precentorref1_CmpValue [v_30, v_32] h33) call fun v_34 h35 =>
arb (.val v_34 h35) call fun v_36 h37 =>
arb (extR v_36 0 h37) call fun v_38 h39 =>
arb (extR v_36 1 h39) call fun v_40 h41 =>
arb (.val v_38 h41) call fun d_42 h43 =>
arb (.val v_40 h43) call fun q_44 h45 =>
lt (sqK (J_precentorlaw3_ValueTells_2 P call fuel k) k) fun k124 =>
arbE (.call F_precentorlaw3_known [] h45) call fun v_125 h126 => lt h126 fun g126 => ifb (true && true) <|
obv (.of (aUn P .not v_125) g126) fun v_127 =>
obv (.val v_127 g126) fun v_129 =>
gdr (wantB v_129 false) (fun c => obv (.val c_26 g126) fun v_131 =>
c true v_131 g126) g126 fun w133 v_131 h133 =>
gdr (wantB v_129 false) (fun c => obv (.val d_42 h133) fun v_134 =>
c true v_134 h133) h133 fun w136 v_134 h136 =>
gdr (wantB v_129 false) (fun c => obv (.of (aBin P .neq 3 (.tmp 53) (.tmp 54) v_131 v_134) h136) fun v_137 =>
c true v_137 h136) h136 fun w139 v_137 h139 =>
obv (pkR v_129 (.bool true) v_137 h139) fun v_140 =>
obv (.val v_140 h139) fun v_142 =>
gdr (wantB v_142 false) (fun c => obv (.val p_28 h139) fun v_144 =>
c true v_144 h139) h139 fun w146 v_144 h146 =>
gdr (wantB v_142 false) (fun c => obv (.val q_44 h146) fun v_147 =>
c true v_147 h146) h146 fun w149 v_147 h149 =>
gdr (wantB v_142 false) (fun c => obv (.of (aBin P .neq 4 (.tmp 58) (.tmp 59) v_144 v_147) h149) fun v_150 =>
c true v_150 h149) h149 fun w152 v_150 h152 =>
obv (pkR v_142 (.bool true) v_150 h152) fun v_153 =>
obv (.val v_153 h152) fun v_155 =>
gdr (wantB v_155 false) (fun c => obv (.of (ldn 5 h152 (t 7)) h152) fun v_157 => ifb true <|
c true v_157 h152) h152 fun w159 v_157 h159 =>
gdr (wantB v_155 false) (fun c => arbE (.call F_value_Right [v_157] h159) call fun v_160 h161 => lt h161 fun g161 => ifb (true && true) <|
c true v_160 g161) h159 fun w162 v_160 h162 =>
gdr (wantB v_155 false) (fun c => obv (.of (ldn 5 h162 (t 7)) h162) fun v_163 => ifb ((!w162 || isV v_163 (arVal (.of (ldn 5 h159 (t 7)) h159))) && true) <|
c true v_163 h162) h162 fun w165 v_163 h165 =>
gdr (wantB v_155 false) (fun c => arbE (.call F_precentorref1_RightValue [v_163] h165) call fun v_166 h167 => lt h167 fun g167 => ifb (true && true) <|
c true v_166 g167) h165 fun w168 v_166 h168 =>
gdr (wantB v_155 false) (fun c => obv (.of (aBin P .neq 4 (.tmp 64) (.tmp 66) v_160 v_166) h168) fun v_169 =>
c true v_169 h168) h168 fun w171 v_169 h171 =>
obv (pkR v_155 (.bool true) v_169 h171) fun v_172 =>
obv (.val v_172 h171) fun v_174 =>
gdr (wantB v_174 false) (fun c => obv (.of (ldn 5 h171 (t 7)) h171) fun v_176 => ifb true <|
c true v_176 h171) h171 fun w178 v_176 h178 =>
gdr (wantB v_174 false) (fun c => obv (.of (ldn 5 h178 (t 8)) h178) fun v_179 => ifb true <|
c true v_179 h178) h178 fun w181 v_179 h181 =>
gdr (wantB v_174 false) (fun c => arbE (.call F_value_Same [v_176, v_179] h181) call fun v_182 h183 => lt h183 fun g183 => ifb (true && true) <|
c true v_182 g183) h181 fun w184 v_182 h184 =>
gdr (wantB v_174 false) (fun c => obv (.of (ldn 5 h184 (t 7)) h184) fun v_185 => ifb ((!w184 || isV v_185 (arVal (.of (ldn 5 h181 (t 7)) h181))) && true) <|
c true v_185 h184) h184 fun w187 v_185 h187 =>
gdr (wantB v_174 false) (fun c => obv (.of (ldn 5 h187 (t 8)) h187) fun v_188 => ifb ((!w184 || isV v_188 (arVal (.of (ldn 5 h181 (t 8)) h181))) && true) <|
c true v_188 h187) h187 fun w190 v_188 h190 =>
gdr (wantB v_174 false) (fun c => arbE (.call F_precentorref1_SameValue [v_185, v_188] h190) call fun v_191 h192 => lt h192 fun g192 => ifb (true && true) <|
c true v_191 g192) h190 fun w193 v_191 h193 =>
gdr (wantB v_174 false) (fun c => obv (.of (aBin P .neq 4 (.tmp 72) (.tmp 75) v_182 v_191) h193) fun v_194 =>
c true v_194 h193) h193 fun w196 v_194 h196 =>
obv (pkR v_174 (.bool true) v_194 h196) fun v_197 =>
obv (.val v_197 h196) fun v_199 =>
gdr (wantB v_199 false) (fun c => obv (.of (ldn 5 h196 (t 7)) h196) fun v_201 => ifb true <|
c true v_201 h196) h196 fun w203 v_201 h203 =>
gdr (wantB v_199 false) (fun c => obv (.of (ldn 5 h203 (t 8)) h203) fun v_204 => ifb true <|
c true v_204 h203) h203 fun w206 v_204 h206 =>
gdr (wantB v_199 false) (fun c => arbE (.call F_value_Is [v_201, v_204] h206) call fun v_207 h208 => lt h208 fun g208 => ifb (true && true) <|
c true v_207 g208) h206 fun w209 v_207 h209 =>
gdr (wantB v_199 false) (fun c => obv (.of (ldn 5 h209 (t 7)) h209) fun v_210 => ifb ((!w209 || isV v_210 (arVal (.of (ldn 5 h206 (t 7)) h206))) && true) <|
c true v_210 h209) h209 fun w212 v_210 h212 =>
gdr (wantB v_199 false) (fun c => obv (.of (ldn 5 h212 (t 8)) h212) fun v_213 => ifb ((!w209 || isV v_213 (arVal (.of (ldn 5 h206 (t 8)) h206))) && true) <|
c true v_213 h212) h212 fun w215 v_213 h215 =>
gdr (wantB v_199 false) (fun c => arbE (.call F_precentorref1_Is [v_210, v_213] h215) call fun v_216 h217 => lt h217 fun g217 => ifb (true && true) <|
c true v_216 g217) h215 fun w218 v_216 h218 =>
gdr (wantB v_199 false) (fun c => obv (.of (aBin P .neq 4 (.tmp 81) (.tmp 84) v_207 v_216) h218) fun v_219 =>
c true v_219 h218) h218 fun w221 v_219 h221 =>
obv (pkR v_199 (.bool true) v_219 h221) fun v_222 =>
cb v_222 (
arb (.val (.bool false) h221) call fun v_224 h225 =>
k124 .ret (upd (upd (upd (upd (upd (upd (upd (upd (upd (upd (upd (upd (upd (upd (upd (upd (upd (upd (upd (upd (upd (upd (upd (upd (upd (upd (upd (upd (upd (upd (upd (upd (upd (upd (upd (upd (upd (upd (upd (upd (upd (upd (upd (upd (upd (upd (upd (upd (upd (upd (upd (upd (upd (upd t 39 v_14) 40 v_16) 41 v_18) 38 v_20) 42 v_22) 43 v_24) 16 c_26) 17 p_28) 45 v_30) 46 v_32) 47 v_34) 44 v_36) 48 v_38) 49 v_40) 18 d_42) 19 q_44) 50 v_125) 51 v_127) 52 v_129) 53 v_131) 54 v_134) 55 v_137) 56 v_140) 57 v_142) 58 v_144) 59 v_147) 60 v_150) 61 v_153) 62 v_155) 63 v_157) 64 v_160) 65 v_163) 66 v_166) 67 v_169) 68 v_172) 69 v_174) 70 v_176) 71 v_179) 72 v_182) 73 v_185) 74 v_188) 75 v_191) 76 v_194) 77 v_197) 78 v_199) 79 v_201) 80 v_204) 81 v_207) 82 v_210) 83 v_213) 84 v_216) 85 v_219) 86 v_222) 14 v_224) h225) (
k124 .normal (upd (upd (upd (upd (upd (upd (upd (upd (upd (upd (upd (upd (upd (upd (upd (upd (upd (upd (upd (upd (upd (upd (upd (upd (upd (upd (upd (upd (upd (upd (upd (upd (upd (upd (upd (upd (upd (upd (upd (upd (upd (upd (upd (upd (upd (upd (upd (upd (upd (upd (upd (upd (upd t 39 v_14) 40 v_16) 41 v_18) 38 v_20) 42 v_22) 43 v_24) 16 c_26) 17 p_28) 45 v_30) 46 v_32) 47 v_34) 44 v_36) 48 v_38) 49 v_40) 18 d_42) 19 q_44) 50 v_125) 51 v_127) 52 v_129) 53 v_131) 54 v_134) 55 v_137) 56 v_140) 57 v_142) 58 v_144) 59 v_147) 60 v_150) 61 v_153) 62 v_155) 63 v_157) 64 v_160) 65 v_163) 66 v_166) 67 v_169) 68 v_172) 69 v_174) 70 v_176) 71 v_179) 72 v_182) 73 v_185) 74 v_188) 75 v_191) 76 v_194) 77 v_197) 78 v_199) 79 v_201) 80 v_204) 81 v_207) 82 v_210) 83 v_213) 84 v_216) 85 v_219) 86 v_222) h221)

def J_precentorlaw3_ValueTells_0 (P : Program) (call : FuncId → List AVal → Heap → Res AVal) (fuel : Nat) (k : Kn (AVal)) (t : T) (h : Heap) : Res (AVal) :=
lt (sqK (J_precentorlaw3_ValueTells_1 P call fuel k) k) fun k226 =>
arb (.val (t 15) h) call fun v_227 h228 =>
arb (.call F_precentorhand_Feed_Next [v_227, (.int .i64 4)] h228) call fun v_229 h230 =>
arb (.of (aBin P .eql 3 (.tmp 35) (.const (.int .i64 0)) v_229 (.int .i64 0)) h230) call fun v_231 h232 =>
cb v_231 (
arb (.of (ldn 5 h232 (t 7)) h232) call fun v_233 h234 =>
arb (stR 5 h234 (t 8) v_233) call fun v_235 h236 =>
k226 .normal (upd (upd (upd (upd t 34 v_227) 35 v_229) 36 v_231) 37 v_233) h236) (
k226 .normal (upd (upd (upd t 34 v_227) 35 v_229) 36 v_231) h232)

def S_precentorlaw3_ValueTells (P : Program) (call : FuncId → List AVal → Heap → Res AVal) (fuel : Nat) (a_a0 b_a1 l_a2 n_a3 x_a4 s_a5 t_a6 : AVal) (h : Heap) : Res AVal :=
lt (retK P [.tmp 14]) fun k =>
arb (boxR a_a0 h) call fun a_0 h1 =>
arb (boxR b_a1 h1) call fun b_2 h3 =>
arb (.val (.bool false) h3) call fun v_4 h5 =>
arb (.val l_a2 h5) call fun v_6 h7 =>
arb (.of (bldR [.nils, (.int .i64 0)] [(0, 1, v_6)]) h7) call fun v_8 h9 =>
arb (boxR v_8 h9) call fun v_10 h11 =>
arb (.val v_10 h11) call fun f_12 h13 =>
lt (sqK (J_precentorlaw3_ValueTells_0 P call fuel k) k) fun k237 =>
arb (.val f_12 h13) call fun v_238 h239 =>
arb (.call F_precentorhand_Feed_Next [v_238, (.int .i64 2)] h239) call fun v_240 h241 =>
arb (.of (aBin P .eql 3 (.tmp 28) (.const (.int .i64 1)) v_240 (.int .i64 1)) h241) call fun v_242 h243 =>
cb v_242 (
arb (.val f_12 h243) call fun v_244 h245 =>
arb (.call F_precentorhand_Feed_Value [v_244] h245) call fun v_246 h247 =>
arb (.val f_12 h247) call fun v_248 h249 =>
arb (.call F_precentorhand_Feed_Value [v_248] h249) call fun v_250 h251 =>
arb (stR 5 h251 a_0 v_246) call fun v_252 h253 =>
arb (stR 5 h253 b_2 v_250) call fun v_254 h255 =>
k237 .normal (upd (upd (upd (upd (upd (upd (upd (upd (upd (upd (upd (upd (upd (upd (enterT [a_a0, b_a1, l_a2, n_a3, x_a4, s_a5, t_a6]) 7 a_0) 8 b_2) 14 v_4) 24 v_6) 25 v_8) 26 v_10) 15 f_12) 27 v_238) 28 v_240) 29 v_242) 30 v_244) 31 v_246) 32 v_248) 33 v_250) h255) (
k237 .normal (upd (upd (upd (upd (upd (upd (upd (upd (upd (upd (enterT [a_a0, b_a1, l_a2, n_a3, x_a4, s_a5, t_a6]) 7 a_0) 8 b_2) 14 v_4) 24 v_6) 25 v_8) 26 v_10) 15 f_12) 27 v_238) 28 v_240) 29 v_242) h243)
theorem E_precentorlaw3_ValueTells (call : FuncId → List AVal → Heap → Res AVal) (fuel : Nat) (a_a0 b_a1 l_a2 n_a3 x_a4 s_a5 t_a6 : AVal) (h : Heap) : bodyR Try.prog call fuel Try.f4 [a_a0, b_a1, l_a2, n_a3, x_a4, s_a5, t_a6] h = S_precentorlaw3_ValueTells Try.prog call fuel a_a0 b_a1 l_a2 n_a3 x_a4 s_a5 t_a6 h := by kernel_rfl
theorem R_precentorlaw3_ValueTells {X : XTab} (a_a0 b_a1 l_a2 n_a3 x_a4 s_a5 t_a6 : AVal) {h : Heap} {Q : AVal → Heap → Prop} (hx : X F_precentorlaw3_ValueTells [a_a0, b_a1, l_a2, n_a3, x_a4, s_a5, t_a6] = none) (q : Tells (fun m => S_precentorlaw3_ValueTells Try.prog (acallX Try.prog X m) m a_a0 b_a1 l_a2 n_a3 x_a4 s_a5 t_a6 h) Q) :
    Tells (fun m => acallX Try.prog X m F_precentorlaw3_ValueTells [a_a0, b_a1, l_a2, n_a3, x_a4, s_a5, t_a6] h) Q :=
  Tells.later (q.le fun m => (E_precentorlaw3_ValueTells (acallX Try.prog X m) m a_a0 b_a1 l_a2 n_a3 x_a4 s_a5 t_a6 h) ▸ acallX_le Try.func4 hx m h)

/-! ### precentor/precentorlaw3.ValueOrder -/
def J_precentorlaw3_ValueOrder_1 (P : Program) (call : FuncId → List AVal → Heap → Res AVal) (fuel : Nat) (k : Kn (AVal)) (t : T) (h : Heap) : Res (AVal) :=
arb (.of (ldn 5 h (t 4)) h) call fun v_98 h99 =>
arb (.of (ldn 5 h99 (t 5)) h99) call fun v_100 h101 =>
arb (.call F_value_Is [v_98, v_100] h101) call fun v_102 h103 =>
arb (.val (t 8) h103) call fun v_104 h105 =>
arb (.val v_104 h105) call fun v_106 h107 =>
gd (wantB v_106 true) (fun c => arb (.val (t 7) h107) call c) h107 fun v_108 h109 =>
gd (wantB v_106 true) (fun c => arb (.of (aBin P .eql 3 (.tmp 104) (.const (.int .i64 0)) v_108 (.int .i64 0)) h109) call c) h109 fun v_110 h111 =>
arb (pkR v_106 v_110 (.bool false) h111) call fun v_112 h113 =>
arb (.of (aBin P .eql 4 (.tmp 101) (.tmp 106) v_102 v_112) h113) call fun v_114 h115 =>
arb (.val v_114 h115) call fun v_116 h117 =>
k .ret (upd (upd (upd (upd (upd (upd (upd (upd (upd (upd t 99 v_98) 100 v_100) 101 v_102) 102 v_104) 103 v_106) 104 v_108) 105 v_110) 106 v_112) 107 v_114) 2 v_116) h117

def J_precentorlaw3_ValueOrder_0 (P : Program) (call : FuncId → List AVal → Heap → Res AVal) (fuel : Nat) (k : Kn (AVal)) (t : T) (h : Heap) : Res (AVal) :=
lt (sqK (J_precentorlaw3_ValueOrder_1 P call fuel k) k) fun k118 =>
arb (.val (t 8) h) call fun v_119 h120 =>
arb (.val v_119 h120) call fun v_121 h122 =>
gd (wantB v_121 true) (fun c => arb (.val (t 12) h122) call c) h122 fun v_123 h124 =>
arb (pkR v_121 v_123 (.bool false) h124) call fun v_125 h126 =>
arb (.val v_125 h126) call fun v_127 h128 =>
gd (wantB v_127 true) (fun c => arb (.val (t 14) h128) call c) h128 fun v_129 h130 =>
gd (wantB v_127 true) (fun c => arb (.of (aUn P .not v_129) h130) call c) h130 fun v_131 h132 =>
gd (wantB v_127 true) (fun c => arb (.val v_131 h132) call c) h132 fun v_133 h134 =>
gd (wantB v_133 false) (fun c => arb (.val (t 7) h134) call c) h134 fun v_135 h136 =>
gd (wantB v_133 false) (fun c => arb (.of (aBin P .leq 3 (.tmp 69) (.const (.int .i64 0)) v_135 (.int .i64 0)) h136) call c) h136 fun v_137 h138 =>
gd (wantB v_133 false) (fun c => arb (.val v_137 h138) call c) h138 fun v_139 h140 =>
gd (wantB v_139 true) (fun c => arb (.val (t 11) h140) call c) h140 fun v_141 h142 =>
gd (wantB v_139 true) (fun c => arb (.of (aBin P .leq 3 (.tmp 72) (.const (.int .i64 0)) v_141 (.int .i64 0)) h142) call c) h142 fun v_143 h144 =>
gd (wantB v_133 false) (fun c => arb (pkR v_139 v_143 (.bool false) h144) call c) h144 fun v_145 h146 =>
gd (wantB v_133 false) (fun c => arb (.val v_145 h146) call c) h146 fun v_147 h148 =>
gd (wantB v_147 true) (fun c => arb (.val (t 13) h148) call c) h148 fun v_149 h150 =>
gd (wantB v_147 true) (fun c => arb (.val (t 7) h150) call c) h150 fun v_151 h152 =>
gd (wantB v_147 true) (fun c => arb (.val (t 11) h152) call c) h152 fun v_153 h154 =>
gd (wantB v_147 true) (fun c => arb (.of (aPureB P (Builtin.min_ #[3, 3] 3) [v_151, v_153]) h154) call c) h154 fun v_155 h156 =>
gd (wantB v_147 true) (fun c => arb (.of (aBin P .neq 3 (.tmp 76) (.tmp 79) v_149 v_155) h156) call c) h156 fun v_157 h158 =>
gd (wantB v_133 false) (fun c => arb (pkR v_147 v_157 (.bool false) h158) call c) h158 fun v_159 h160 =>
gd (wantB v_127 true) (fun c => arb (pkR v_133 (.bool true) v_159 h160) call c) h160 fun v_161 h162 =>
gd (wantB v_127 true) (fun c => arb (.val v_161 h162) call c) h162 fun v_163 h164 =>
gd (wantB v_163 false) (fun c => arb (.val (t 7) h164) call c) h164 fun v_165 h166 =>
gd (wantB v_163 false) (fun c => arb (.of (aBin P .geq 3 (.tmp 84) (.const (.int .i64 0)) v_165 (.int .i64 0)) h166) call c) h166 fun v_167 h168 =>
gd (wantB v_163 false) (fun c => arb (.val v_167 h168) call c) h168 fun v_169 h170 =>
gd (wantB v_169 true) (fun c => arb (.val (t 11) h170) call c) h170 fun v_171 h172 =>
gd (wantB v_169 true) (fun c => arb (.of (aBin P .geq 3 (.tmp 87) (.const (.int .i64 0)) v_171 (.int .i64 0)) h172) call c) h172 fun v_173 h174 =>
gd (wantB v_163 false) (fun c => arb (pkR v_169 v_173 (.bool false) h174) call c) h174 fun v_175 h176 =>
gd (wantB v_163 false) (fun c => arb (.val v_175 h176) call c) h176 fun v_177 h178 =>
gd (wantB v_177 true) (fun c => arb (.val (t 13) h178) call c) h178 fun v_179 h180 =>
gd (wantB v_177 true) (fun c => arb (.val (t 7) h180) call c) h180 fun v_181 h182 =>
gd (wantB v_177 true) (fun c => arb (.val (t 11) h182) call c) h182 fun v_183 h184 =>
gd (wantB v_177 true) (fun c => arb (.of (aPureB P (Builtin.max_ #[3, 3] 3) [v_181, v_183]) h184) call c) h184 fun v_185 h186 =>
gd (wantB v_177 true) (fun c => arb (.of (aBin P .neq 3 (.tmp 91) (.tmp 94) v_179 v_185) h186) call c) h186 fun v_187 h188 =>
gd (wantB v_163 false) (fun c => arb (pkR v_177 v_187 (.bool false) h188) call c) h188 fun v_189 h190 =>
gd (wantB v_127 true) (fun c => arb (pkR v_163 (.bool true) v_189 h190) call c) h190 fun v_191 h192 =>
arb (pkR v_127 v_191 (.bool false) h192) call fun v_193 h194 =>
cb v_193 (
arb (.val (.bool false) h194) call fun v_195 h196 =>
k118 .ret (upd (upd (upd (upd (upd (upd (upd (upd (upd (upd (upd (upd (upd (upd (upd (upd (upd (upd (upd (upd (upd (upd (upd (upd (upd (upd (upd (upd (upd (upd (upd (upd (upd (upd (upd (upd (upd (upd (upd t 61 v_119) 62 v_121) 63 v_123) 64 v_125) 65 v_127) 66 v_129) 67 v_131) 68 v_133) 69 v_135) 70 v_137) 71 v_139) 72 v_141) 73 v_143) 74 v_145) 75 v_147) 76 v_149) 77 v_151) 78 v_153) 79 v_155) 80 v_157) 81 v_159) 82 v_161) 83 v_163) 84 v_165) 85 v_167) 86 v_169) 87 v_171) 88 v_173) 89 v_175) 90 v_177) 91 v_179) 92 v_181) 93 v_183) 94 v_185) 95 v_187) 96 v_189) 97 v_191) 98 v_193) 2 v_195) h196) (
k118 .normal (upd (upd (upd (upd (upd (upd (upd (upd (upd (upd (upd (upd (upd (upd (upd (upd (upd (upd (upd (upd (upd (upd (upd (upd (upd (upd (upd (upd (upd (upd (upd (upd (upd (upd (upd (upd (upd (upd t 61 v_119) 62 v_121) 63 v_123) 64 v_125) 65 v_127) 66 v_129) 67 v_131) 68 v_133) 69 v_135) 70 v_137) 71 v_139) 72 v_141) 73 v_143) 74 v_145) 75 v_147) 76 v_149) 77 v_151) 78 v_153) 79 v_155) 80 v_157) 81 v_159) 82 v_161) 83 v_163) 84 v_165) 85 v_167) 86 v_169) 87 v_171) 88 v_173) 89 v_175) 90 v_177) 91 v_179) 92 v_181) 93 v_183) 94 v_185) 95 v_187) 96 v_189) 97 v_191) 98 v_193) h194)

def S_precentorlaw3_ValueOrder (P : Program) (call : FuncId → List AVal → Heap → Res AVal) (fuel : Nat) (l_a0 : AVal) (h : Heap) : Res AVal :=
lt (retK P [.tmp 2]) fun k =>
arb (.val (.bool false) h) call fun v_0 h1 =>
arb (.val l_a0 h1) call fun v_2 h3 =>
arb (.of (bldR [.nils, (.int .i64 0)] [(0, 1, v_2)]) h3) call fun v_4 h5 =>
arb (boxR v_4 h5) call fun v_6 h7 =>
arb (.val v_6 h7) call fun f_8 h9 =>
arb (.val f_8 h9) call fun v_10 h11 =>
arb (.call F_precentorhand_Feed_Value [v_10] h11) call fun v_12 h13 =>
arb (.val f_8 h13) call fun v_14 h15 =>
arb (.call F_precentorhand_Feed_Value [v_14] h15) call fun v_16 h17 =>
arb (.val f_8 h17) call fun v_18 h19 =>
arb (.call F_precentorhand_Feed_Value [v_18] h19) call fun v_20 h21 =>
arb (newR [(.int .i64 0), (.int .i64 0), (.flt .f64 0), (.str (bs [])), (.bool false)] h21) call fun a_22 h23 =>
arb (newR [(.int .i64 0), (.int .i64 0), (.flt .f64 0), (.str (bs [])), (.bool false)] h23) call fun b_24 h25 =>
arb (newR [(.int .i64 0), (.int .i64 0), (.flt .f64 0), (.str (bs [])), (.bool false)] h25) call fun c_26 h27 =>
arb (stR 5 h27 a_22 v_12) call fun v_28 h29 =>
arb (stR 5 h29 b_24 v_16) call fun v_30 h31 =>
arb (stR 5 h31 c_26 v_20) call fun v_32 h33 =>
arb (.of (ldn 5 h33 a_22) h33) call fun v_34 h35 =>
arb (.of (ldn 5 h35 b_24) h35) call fun v_36 h37 =>
arb (.call F_value_Cmp [v_34, v_36] h37) call fun v_38 h39 =>
arb (.val v_38 h39) call fun v_40 h41 =>
arb (extR v_40 0 h41) call fun v_42 h43 =>
arb (extR v_40 1 h43) call fun v_44 h45 =>
arb (.val v_42 h45) call fun p_46 h47 =>
arb (.val v_44 h47) call fun pk_48 h49 =>
arb (.of (ldn 5 h49 b_24) h49) call fun v_50 h51 =>
arb (.of (ldn 5 h51 a_22) h51) call fun v_52 h53 =>
arb (.call F_value_Cmp [v_50, v_52] h53) call fun v_54 h55 =>
arb (.val v_54 h55) call fun v_56 h57 =>
arb (extR v_56 0 h57) call fun v_58 h59 =>
arb (extR v_56 1 h59) call fun v_60 h61 =>
arb (.val v_58 h61) call fun q_62 h63 =>
arb (.val v_60 h63) call fun qk_64 h65 =>
arb (.of (ldn 5 h65 b_24) h65) call fun v_66 h67 =>
arb (.of (ldn 5 h67 c_26) h67) call fun v_68 h69 =>
arb (.call F_value_Cmp [v_66, v_68] h69) call fun v_70 h71 =>
arb (.val v_70 h71) call fun v_72 h73 =>
arb (extR v_72 0 h73) call fun v_74 h75 =>
arb (extR v_72 1 h75) call fun v_76 h77 =>
arb (.val v_74 h77) call fun r_78 h79 =>
arb (.val v_76 h79) call fun rk_80 h81 =>
arb (.of (ldn 5 h81 a_22) h81) call fun v_82 h83 =>
arb (.of (ldn 5 h83 c_26) h83) call fun v_84 h85 =>
arb (.call F_value_Cmp [v_82, v_84] h85) call fun v_86 h87 =>
arb (.val v_86 h87) call fun v_88 h89 =>
arb (extR v_88 0 h89) call fun v_90 h91 =>
arb (extR v_88 1 h91) call fun v_92 h93 =>
arb (.val v_90 h93) call fun s_94 h95 =>
arb (.val v_92 h95) call fun sk_96 h97 =>
lt (sqK (J_precentorlaw3_ValueOrder_0 P call fuel k) k) fun k197 =>
arb (.call F_precentorlaw3_known [] h97) call fun v_198 h199 =>
arb (.of (aUn P .not v_198) h199) call fun v_200 h201 =>
arb (.val v_200 h201) call fun v_202 h203 =>
gd (wantB v_202 false) (fun c => arb (.val pk_48 h203) call c) h203 fun v_204 h205 =>
gd (wantB v_202 false) (fun c => arb (.val qk_64 h205) call c) h205 fun v_206 h207 =>
gd (wantB v_202 false) (fun c => arb (.of (aBin P .neq 4 (.tmp 51) (.tmp 52) v_204 v_206) h207) call c) h207 fun v_208 h209 =>
arb (pkR v_202 (.bool true) v_208 h209) call fun v_210 h211 =>
arb (.val v_210 h211) call fun v_212 h213 =>
gd (wantB v_212 false) (fun c => arb (.val p_46 h213) call c) h213 fun v_214 h215 =>
gd (wantB v_212 false) (fun c => arb (.val q_62 h215) call c) h215 fun v_216 h217 =>
gd (wantB v_212 false) (fun c => arb (.of (aUn P .neg v_216) h217) call c) h217 fun v_218 h219 =>
gd (wantB v_212 false) (fun c => arb (.of (aBin P .neq 3 (.tmp 56) (.tmp 58) v_214 v_218) h219) call c) h219 fun v_220 h221 =>
arb (pkR v_212 (.bool true) v_220 h221) call fun v_222 h223 =>
cb v_222 (
arb (.val (.bool false) h223) call fun v_224 h225 =>
k197 .ret (upd (upd (upd (upd (upd (upd (upd (upd (upd (upd (upd (upd (upd (upd (upd (upd (upd (upd (upd (upd (upd (upd (upd (upd (upd (upd (upd (upd (upd (upd (upd (upd (upd (upd (upd (upd (upd (upd (upd (upd (upd (upd (upd (upd (upd (upd (upd (upd (upd (upd (upd (upd (upd (upd (upd (upd (upd (upd (upd (upd (enterT [l_a0]) 2 v_0) 15 v_2) 16 v_4) 17 v_6) 3 f_8) 18 v_10) 19 v_12) 20 v_14) 21 v_16) 22 v_18) 23 v_20) 4 a_22) 5 b_24) 6 c_26) 25 v_34) 26 v_36) 27 v_38) 24 v_40) 28 v_42) 29 v_44) 7 p_46) 8 pk_48) 31 v_50) 32 v_52) 33 v_54) 30 v_56) 34 v_58) 35 v_60) 9 q_62) 10 qk_64) 37 v_66) 38 v_68) 39 v_70) 36 v_72) 40 v_74) 41 v_76) 11 r_78) 12 rk_80) 43 v_82) 44 v_84) 45 v_86) 42 v_88) 46 v_90) 47 v_92) 13 s_94) 14 sk_96) 48 v_198) 49 v_200) 50 v_202) 51 v_204) 52 v_206) 53 v_208) 54 v_210) 55 v_212) 56 v_214) 57 v_216) 58 v_218) 59 v_220) 60 v_222) 2 v_224) h225) (
k197 .normal (upd (upd (upd (upd (upd (upd (upd (upd (upd (upd (upd (upd (upd (upd (upd (upd (upd (upd (upd (upd (upd (upd (upd (upd (upd (upd (upd (upd (upd (upd (upd (upd (upd (upd (upd (upd (upd (upd (upd (upd (upd (upd (upd (upd (upd (upd (upd (upd (upd (upd (upd (upd (upd (upd (upd (upd (upd (upd (upd (enterT [l_a0]) 2 v_0) 15 v_2) 16 v_4) 17 v_6) 3 f_8) 18 v_10) 19 v_12) 20 v_14) 21 v_16) 22 v_18) 23 v_20) 4 a_22) 5 b_24) 6 c_26) 25 v_34) 26 v_36) 27 v_38) 24 v_40) 28 v_42) 29 v_44) 7 p_46) 8 pk_48) 31 v_50) 32 v_52) 33 v_54) 30 v_56) 34 v_58) 35 v_60) 9 q_62) 10 qk_64) 37 v_66) 38 v_68) 39 v_70) 36 v_72) 40 v_74) 41 v_76) 11 r_78) 12 rk_80) 43 v_82) 44 v_84) 45 v_86) 42 v_88) 46 v_90) 47 v_92) 13 s_94) 14 sk_96) 48 v_198) 49 v_200) 50 v_202) 51 v_204) 52 v_206) 53 v_208) 54 v_210) 55 v_212) 56 v_214) 57 v_216) 58 v_218) 59 v_220) 60 v_222) h223)
theorem E_precentorlaw3_ValueOrder (call : FuncId → List AVal → Heap → Res AVal) (fuel : Nat) (l_a0 : AVal) (h : Heap) : bodyR Try.prog call fuel Try.f5 [l_a0] h = S_precentorlaw3_ValueOrder Try.prog call fuel l_a0 h := by kernel_rfl
theorem R_precentorlaw3_ValueOrder {X : XTab} (l_a0 : AVal) {h : Heap} {Q : AVal → Heap → Prop} (hx : X F_precentorlaw3_ValueOrder [l_a0] = none) (q : Tells (fun m => S_precentorlaw3_ValueOrder Try.prog (acallX Try.prog X m) m l_a0 h) Q) :
    Tells (fun m => acallX Try.prog X m F_precentorlaw3_ValueOrder [l_a0] h) Q :=
  Tells.later (q.le fun m => (E_precentorlaw3_ValueOrder (acallX Try.prog X m) m l_a0 h) ▸ acallX_le Try.func5 hx m h)

/-! ### precentor/precentorlaw3.ValueSame -/
def J_precentorlaw3_ValueSame_2 (P : Program) (call : FuncId → List AVal → Heap → Res AVal) (fuel : Nat) (k : Kn (AVal)) (t : T) (h : Heap) : Res (AVal) :=
obv (.of (ldn 5 h (t 6)) h) fun v_68 => ifb true <|
obv (.of (ldn 5 h (t 7)) h) fun v_70 => ifb true <|
arbE (.call F_value_Same [v_68, v_70] h) call fun v_72 h73 => lt h73 fun g73 => ifb (true && true) <|
obv (.of (aUn P .not v_72) g73) fun v_74 =>
obv (.val v_74 g73) fun v_76 =>
gdr (wantB v_76 false) (fun c => obv (.val (t 9) g73) fun v_78 =>
c true v_78 g73) g73 fun w80 v_78 h80 =>
gdr (wantB v_76 false) (fun c => obv (.val (t 11) h80) fun v_81 =>
c true v_81 h80) h80 fun w83 v_81 h83 =>
gdr (wantB v_76 false) (fun c => obv (.of (aBin P .eql 3 (.tmp 94) (.tmp 95) v_78 v_81) h83) fun v_84 =>
c true v_84 h83) h83 fun w86 v_84 h86 =>
gdr (wantB v_76 false) (fun c => obv (.val v_84 h86) fun v_87 =>
c true v_87 h86) h86 fun w89 v_87 h89 =>
gdr (wantB v_87 true) (fun c => obv (.val (t 10) h89) fun v_90 =>
c true v_90 h89) h89 fun w92 v_90 h92 =>
gdr (wantB v_87 true) (fun c => obv (.val (t 12) h92) fun v_93 =>
c true v_93 h92) h92 fun w95 v_93 h95 =>
gdr (wantB v_87 true) (fun c => obv (.of (aBin P .eql 4 (.tmp 98) (.tmp 99) v_90 v_93) h95) fun v_96 =>
c true v_96 h95) h95 fun w98 v_96 h98 =>
gdr (wantB v_76 false) (fun c => obv (pkR v_87 v_96 (.bool false) h98) fun v_99 =>
c true v_99 h98) h98 fun w101 v_99 h101 =>
gdr (wantB v_76 false) (fun c => obv (.val v_99 h101) fun v_102 =>
c true v_102 h101) h101 fun w104 v_102 h104 =>
gdr (wantB v_102 true) (fun c => obv (.of (ldn 5 h104 (t 6)) h104) fun v_105 => ifb true <|
c true v_105 h104) h104 fun w107 v_105 h107 =>
gdr (wantB v_102 true) (fun c => obv (.of (ldn 5 h107 (t 7)) h107) fun v_108 => ifb true <|
c true v_108 h107) h107 fun w110 v_108 h110 =>
gdr (wantB v_102 true) (fun c => arbE (.call F_value_Is [v_105, v_108] h110) call fun v_111 h112 => lt h112 fun g112 => ifb (true && true) <|
c true v_111 g112) h110 fun w113 v_111 h113 =>
gdr (wantB v_102 true) (fun c => obv (.of (ldn 5 h113 (t 6)) h113) fun v_114 => ifb ((!w113 || isV v_114 (arVal (.of (ldn 5 h110 (t 6)) h110))) && true) <|
c true v_114 h113) h113 fun w116 v_114 h116 =>
gdr (wantB v_102 true) (fun c => obv (.of (ldn 5 h116 (t 6)) h116) fun v_117 => ifb ((!w113 || isV v_117 (arVal (.of (ldn 5 h110 (t 6)) h110))) && true) <|
c true v_117 h116) h116 fun w119 v_117 h119 =>
gdr (wantB v_102 true) (fun c => arbE (.call F_value_Is [v_114, v_117] h119) call fun v_120 h121 => lt h121 fun g121 => ifb (true && true) <|
c true v_120 g121) h119 fun w122 v_120 h122 =>
gdr (wantB v_102 true) (fun c => obv (.of (aBin P .eql 4 (.tmp 105) (.tmp 108) v_111 v_120) h122) fun v_123 =>
c true v_123 h122) h122 fun w125 v_123 h125 =>
gdr (wantB v_76 false) (fun c => obv (pkR v_102 v_123 (.bool false) h125) fun v_126 =>
c true v_126 h125) h125 fun w128 v_126 h128 =>
obv (pkR v_76 (.bool true) v_126 h128) fun v_129 =>
obv (.val v_129 h128) fun v_131 =>
k .ret (upd (upd (upd (upd (upd (upd (upd (upd (upd (upd (upd (upd (upd (upd (upd (upd (upd (upd (upd (upd (upd (upd (upd (upd t 89 v_68) 90 v_70) 91 v_72) 92 v_74) 93 v_76) 94 v_78) 95 v_81) 96 v_84) 97 v_87) 98 v_90) 99 v_93) 100 v_96) 101 v_99) 102 v_102) 103 v_105) 104 v_108) 105 v_111) 106 v_114) 107 v_117) 108 v_120) 109 v_123) 110 v_126) 111 v_129) 4 v_131) h128

def J_precentorlaw3_ValueSame_1 (P : Program) (call : FuncId → List AVal → Heap → Res AVal) (fuel : Nat) (k : Kn (AVal)) (t : T) (h : Heap) : Res (AVal) :=
lt (sqK (J_precentorlaw3_ValueSame_2 P call fuel k) k) fun k133 =>
arb (.of (ldn 5 h (t 6)) h) call fun v_134 h135 =>
arb (.of (ldn 5 h135 (t 7)) h135) call fun v_136 h137 =>
arb (.call F_value_Is [v_134, v_136] h137) call fun v_138 h139 =>
arb (.val v_138 h139) call fun v_140 h141 =>
gd (wantB v_140 true) (fun c => arb (.val (t 9) h141) call c) h141 fun v_142 h143 =>
gd (wantB v_140 true) (fun c => arb (.val (t 11) h143) call c) h143 fun v_144 h145 =>
gd (wantB v_140 true) (fun c => arb (.of (aBin P .neq 3 (.tmp 80) (.tmp 81) v_142 v_144) h145) call c) h145 fun v_146 h147 =>
gd (wantB v_140 true) (fun c => arb (.val v_146 h147) call c) h147 fun v_148 h149 =>
gd (wantB v_148 false) (fun c => arb (.val (t 10) h149) call c) h149 fun v_150 h151 =>
gd (wantB v_148 false) (fun c => arb (.val (t 12) h151) call c) h151 fun v_152 h153 =>
gd (wantB v_148 false) (fun c => arb (.of (aBin P .neq 4 (.tmp 84) (.tmp 85) v_150 v_152) h153) call c) h153 fun v_154 h155 =>
gd (wantB v_140 true) (fun c => arb (pkR v_148 (.bool true) v_154 h155) call c) h155 fun v_156 h157 =>
arb (pkR v_140 v_156 (.bool false) h157) call fun v_158 h159 =>
cb v_158 (
arb (.val (.bool false) h159) call fun v_160 h161 =>
k133 .ret (upd (upd (upd (upd (upd (upd (upd (upd (upd (upd (upd (upd (upd (upd t 76 v_134) 77 v_136) 78 v_138) 79 v_140) 80 v_142) 81 v_144) 82 v_146) 83 v_148) 84 v_150) 85 v_152) 86 v_154) 87 v_156) 88 v_158) 4 v_160) h161) (
k133 .normal (upd (upd (upd (upd (upd (upd (upd (upd (upd (upd (upd (upd (upd t 76 v_134) 77 v_136) 78 v_138) 79 v_140) 80 v_142) 81 v_144) 82 v_146) 83 v_148) 84 v_150) 85 v_152) 86 v_154) 87 v_156) 88 v_158) h159)

def J_precentorlaw3_ValueSame_0 (P : Program) (call : FuncId → List AVal → Heap → Res AVal) (fuel : Nat) (k : Kn (AVal)) (t : T) (h : Heap) : Res (AVal) :=
lt (sqK (J_precentorlaw3_ValueSame_1 P call fuel k) k) fun k162 =>
obv (.of (ldn 5 h (t 6)) h) fun v_163 => ifb true <|
obv (.of (ldn 5 h (t 6)) h) fun v_165 => ifb true <|
arbE (.call F_value_Is [v_163, v_165] h) call fun v_167 h168 => lt h168 fun g168 => ifb (true && true) <|
obv (.of (fadR 0 (t 6)) g168) fun v_169 =>
obv (.of (ld1 g168 v_169) g168) fun v_171 => ifb (isV v_171 (arVal (.of (ld1 h v_169) h)) && true) <|
obv (.of (aBin P .neq 3 (.tmp 66) (.const (.int .i64 2)) v_171 (.int .i64 2)) g168) fun v_173 =>
obv (.val v_173 g168) fun v_175 =>
gdr (wantB v_175 false) (fun c => obv (.of (fadR 2 (t 6)) g168) fun v_177 =>
c true v_177 g168) g168 fun w179 v_177 h179 =>
gdr (wantB v_175 false) (fun c => obv (.of (ld1 h179 v_177) h179) fun v_180 => ifb true <|
c true v_180 h179) h179 fun w182 v_180 h182 =>
gdr (wantB v_175 false) (fun c => obv (.of (fadR 2 (t 6)) h182) fun v_183 =>
c true v_183 h182) h182 fun w185 v_183 h185 =>
gdr (wantB v_175 false) (fun c => obv (.of (ld1 h185 v_183) h185) fun v_186 => ifb true <|
c true v_186 h185) h185 fun w188 v_186 h188 =>
gdr (wantB v_175 false) (fun c => obv (.of (aBin P .eql 22 (.tmp 70) (.tmp 72) v_180 v_186) h188) fun v_189 =>
c true v_189 h188) h188 fun w191 v_189 h191 =>
obv (pkR v_175 (.bool true) v_189 h191) fun v_192 =>
obv (.of (aBin P .neq 4 (.tmp 64) (.tmp 74) v_167 v_192) h191) fun v_194 =>
cb v_194 (
arb (.val (.bool false) h191) call fun v_196 h197 =>
k162 .ret (upd (upd (upd (upd (upd (upd (upd (upd (upd (upd (upd (upd (upd (upd (upd t 62 v_163) 63 v_165) 64 v_167) 65 v_169) 66 v_171) 67 v_173) 68 v_175) 69 v_177) 70 v_180) 71 v_183) 72 v_186) 73 v_189) 74 v_192) 75 v_194) 4 v_196) h197) (
k162 .normal (upd (upd (upd (upd (upd (upd (upd (upd (upd (upd (upd (upd (upd (upd t 62 v_163) 63 v_165) 64 v_167) 65 v_169) 66 v_171) 67 v_173) 68 v_175) 69 v_177) 70 v_180) 71 v_183) 72 v_186) 73 v_189) 74 v_192) 75 v_194) h191)

def S_precentorlaw3_ValueSame (P : Program) (call : FuncId → List AVal → Heap → Res AVal) (fuel : Nat) (l_a0 x_a1 : AVal) (h : Heap) : Res AVal :=
lt (retK P [.tmp 4]) fun k =>
arb (boxR x_a1 h) call fun x_0 h1 =>
arb (.val (.bool false) h1) call fun v_2 h3 =>
arb (.val l_a0 h3) call fun v_4 h5 =>
arb (.of (bldR [.nils, (.int .i64 0)] [(0, 1, v_4)]) h5) call fun v_6 h7 =>
arb (boxR v_6 h7) call fun v_8 h9 =>
arb (.val v_8 h9) call fun f_10 h11 =>
arb (.val f_10 h11) call fun v_12 h13 =>
arb (.call F_precentorhand_Feed_Value [v_12] h13) call fun v_14 h15 =>
arb (.val f_10 h15) call fun v_16 h17 =>
arb (.call F_precentorhand_Feed_Value [v_16] h17) call fun v_18 h19 =>
arb (.val f_10 h19) call fun v_20 h21 =>
arb (.call F_precentorhand_Feed_Value [v_20] h21) call fun v_22 h23 =>
arb (newR [(.int .i64 0), (.int .i64 0), (.flt .f64 0), (.str (bs [])), (.bool false)] h23) call fun a_24 h25 =>
arb (newR [(.int .i64 0), (.int .i64 0), (.flt .f64 0), (.str (bs [])), (.bool false)] h25) call fun b_26 h27 =>
arb (newR [(.int .i64 0), (.int .i64 0), (.flt .f64 0), (.str (bs [])), (.bool false)] h27) call fun c_28 h29 =>
arb (stR 5 h29 a_24 v_14) call fun v_30 h31 =>
arb (stR 5 h31 b_26 v_18) call fun v_32 h33 =>
arb (stR 5 h33 c_28 v_22) call fun v_34 h35 =>
arb (.of (ldn 5 h35 a_24) h35) call fun v_36 h37 =>
arb (.of (ldn 5 h37 c_28) h37) call fun v_38 h39 =>
arb (.call F_value_Cmp [v_36, v_38] h39) call fun v_40 h41 =>
arb (.val v_40 h41) call fun v_42 h43 =>
arb (extR v_42 0 h43) call fun v_44 h45 =>
arb (extR v_42 1 h45) call fun v_46 h47 =>
arb (.val v_44 h47) call fun p_48 h49 =>
arb (.val v_46 h49) call fun pk_50 h51 =>
arb (.of (ldn 5 h51 b_26) h51) call fun v_52 h53 =>
arb (.of (ldn 5 h53 c_28) h53) call fun v_54 h55 =>
arb (.call F_value_Cmp [v_52, v_54] h55) call fun v_56 h57 =>
arb (.val v_56 h57) call fun v_58 h59 =>
arb (extR v_58 0 h59) call fun v_60 h61 =>
arb (extR v_58 1 h61) call fun v_62 h63 =>
arb (.val v_60 h63) call fun q_64 h65 =>
arb (.val v_62 h65) call fun qk_66 h67 =>
lt (sqK (J_precentorlaw3_ValueSame_0 P call fuel k) k) fun k198 =>
arbE (.call F_precentorlaw3_known [] h67) call fun v_199 h200 => lt h200 fun g200 => ifb (true && true) <|
obv (.of (aUn P .not v_199) g200) fun v_201 =>
obv (.val v_201 g200) fun v_203 =>
gdr (wantB v_203 false) (fun c => obv (.of (ldn 5 g200 x_0) g200) fun v_205 => ifb true <|
c true v_205 g200) g200 fun w207 v_205 h207 =>
gdr (wantB v_203 false) (fun c => obv (.of (ldn 5 h207 x_0) h207) fun v_208 => ifb true <|
c true v_208 h207) h207 fun w210 v_208 h210 =>
gdr (wantB v_203 false) (fun c => arbE (.call F_value_Same [v_205, v_208] h210) call fun v_211 h212 => lt h212 fun g212 => ifb (true && true) <|
c true v_211 g212) h210 fun w213 v_211 h213 =>
gdr (wantB v_203 false) (fun c => obv (.of (aUn P .not v_211) h213) fun v_214 =>
c true v_214 h213) h213 fun w216 v_214 h216 =>
obv (pkR v_203 (.bool true) v_214 h216) fun v_217 =>
obv (.val v_217 h216) fun v_219 =>
gdr (wantB v_219 false) (fun c => obv (.of (ldn 5 h216 a_24) h216) fun v_221 => ifb true <|
c true v_221 h216) h216 fun w223 v_221 h223 =>
gdr (wantB v_219 false) (fun c => obv (.of (ldn 5 h223 a_24) h223) fun v_224 => ifb true <|
c true v_224 h223) h223 fun w226 v_224 h226 =>
gdr (wantB v_219 false) (fun c => arbE (.call F_value_Same [v_221, v_224] h226) call fun v_227 h228 => lt h228 fun g228 => ifb (true && true) <|
c true v_227 g228) h226 fun w229 v_227 h229 =>
gdr (wantB v_219 false) (fun c => obv (.of (aUn P .not v_227) h229) fun v_230 =>
c true v_230 h229) h229 fun w232 v_230 h232 =>
obv (pkR v_219 (.bool true) v_230 h232) fun v_233 =>
obv (.val v_233 h232) fun v_235 =>
gdr (wantB v_235 false) (fun c => obv (.of (ldn 5 h232 a_24) h232) fun v_237 => ifb true <|
c true v_237 h232) h232 fun w239 v_237 h239 =>
gdr (wantB v_235 false) (fun c => obv (.of (ldn 5 h239 b_26) h239) fun v_240 => ifb true <|
c true v_240 h239) h239 fun w242 v_240 h242 =>
gdr (wantB v_235 false) (fun c => arbE (.call F_value_Same [v_237, v_240] h242) call fun v_243 h244 => lt h244 fun g244 => ifb (true && true) <|
c true v_243 g244) h242 fun w245 v_243 h245 =>
gdr (wantB v_235 false) (fun c => obv (.of (ldn 5 h245 b_26) h245) fun v_246 => ifb ((!w245 || isV v_246 (arVal (.of (ldn 5 h242 b_26) h242))) && true) <|
c true v_246 h245) h245 fun w248 v_246 h248 =>
gdr (wantB v_235 false) (fun c => obv (.of (ldn 5 h248 a_24) h248) fun v_249 => ifb ((!w245 || isV v_249 (arVal (.of (ldn 5 h242 a_24) h242))) && true) <|
c true v_249 h248) h248 fun w251 v_249 h251 =>
gdr (wantB v_235 false) (fun c => arbE (.call F_value_Same [v_246, v_249] h251) call fun v_252 h253 => lt h253 fun g253 => ifb (true && true) <|
c true v_252 g253) h251 fun w254 v_252 h254 =>
gdr (wantB v_235 false) (fun c => obv (.of (aBin P .neq 4 (.tmp 51) (.tmp 54) v_243 v_252) h254) fun v_255 =>
c true v_255 h254) h254 fun w257 v_255 h257 =>
obv (pkR v_235 (.bool true) v_255 h257) fun v_258 =>
obv (.val v_258 h257) fun v_260 =>
gdr (wantB v_260 false) (fun c => obv (.of (ldn 5 h257 a_24) h257) fun v_262 => ifb true <|
c true v_262 h257) h257 fun w264 v_262 h264 =>
gdr (wantB v_260 false) (fun c => arbE (.call F_value_Right [v_262] h264) call fun v_265 h266 => lt h266 fun g266 => ifb (true && true) <|
c true v_265 g266) h264 fun w267 v_265 h267 =>
gdr (wantB v_260 false) (fun c => obv (.of (aUn P .not v_265) h267) fun v_268 =>
c true v_268 h267) h267 fun w270 v_268 h270 =>
obv (pkR v_260 (.bool true) v_268 h270) fun v_271 =>
cb v_271 (
arb (.val (.bool false) h270) call fun v_273 h274 =>
k198 .ret (upd (upd (upd (upd (upd (upd (upd (upd (upd (upd (upd (upd (upd (upd (upd (upd (upd (upd (upd (upd (upd (upd (upd (upd (upd (upd (upd (upd (upd (upd (upd (upd (upd (upd (upd (upd (upd (upd (upd (upd (upd (upd (upd (upd (upd (upd (upd (upd (upd (upd (upd (upd (upd (upd (upd (upd (upd (upd (upd (upd (enterT [l_a0, x_a1]) 3 x_0) 4 v_2) 13 v_4) 14 v_6) 15 v_8) 5 f_10) 16 v_12) 17 v_14) 18 v_16) 19 v_18) 20 v_20) 21 v_22) 6 a_24) 7 b_26) 8 c_28) 23 v_36) 24 v_38) 25 v_40) 22 v_42) 26 v_44) 27 v_46) 9 p_48) 10 pk_50) 29 v_52) 30 v_54) 31 v_56) 28 v_58) 32 v_60) 33 v_62) 11 q_64) 12 qk_66) 34 v_199) 35 v_201) 36 v_203) 37 v_205) 38 v_208) 39 v_211) 40 v_214) 41 v_217) 42 v_219) 43 v_221) 44 v_224) 45 v_227) 46 v_230) 47 v_233) 48 v_235) 49 v_237) 50 v_240) 51 v_243) 52 v_246) 53 v_249) 54 v_252) 55 v_255) 56 v_258) 57 v_260) 58 v_262) 59 v_265) 60 v_268) 61 v_271) 4 v_273) h274) (
k198 .normal (upd (upd (upd (upd (upd (upd (upd (upd (upd (upd (upd (upd (upd (upd (upd (upd (upd (upd (upd (upd (upd (upd (upd (upd (upd (upd (upd (upd (upd (upd (upd (upd (upd (upd (upd (upd (upd (upd (upd (upd (upd (upd (upd (upd (upd (upd (upd (upd (upd (upd (upd (upd (upd (upd (upd (upd (upd (upd (upd (enterT [l_a0, x_a1]) 3 x_0) 4 v_2) 13 v_4) 14 v_6) 15 v_8) 5 f_10) 16 v_12) 17 v_14) 18 v_16) 19 v_18) 20 v_20) 21 v_22) 6 a_24) 7 b_26) 8 c_28) 23 v_36) 24 v_38) 25 v_40) 22 v_42) 26 v_44) 27 v_46) 9 p_48) 10 pk_50) 29 v_52) 30 v_54) 31 v_56) 28 v_58) 32 v_60) 33 v_62) 11 q_64) 12 qk_66) 34 v_199) 35 v_201) 36 v_203) 37 v_205) 38 v_208) 39 v_211) 40 v_214) 41 v_217) 42 v_219) 43 v_221) 44 v_224) 45 v_227) 46 v_230) 47 v_233) 48 v_235) 49 v_237) 50 v_240) 51 v_243) 52 v_246) 53 v_249) 54 v_252) 55 v_255) 56 v_258) 57 v_260) 58 v_262) 59 v_265) 60 v_268) 61 v_271) h270)
theorem E_precentorlaw3_ValueSame (call : FuncId → List AVal → Heap → Res AVal) (fuel : Nat) (l_a0 x_a1 : AVal) (h : Heap) : bodyR Try.prog call fuel Try.f6 [l_a0, x_a1] h = S_precentorlaw3_ValueSame Try.prog call fuel l_a0 x_a1 h := by kernel_rfl
theorem R_precentorlaw3_ValueSame {X : XTab} (l_a0 x_a1 : AVal) {h : Heap} {Q : AVal → Heap → Prop} (hx : X F_precentorlaw3_ValueSame [l_a0, x_a1] = none) (q : Tells (fun m => S_precentorlaw3_ValueSame Try.prog (acallX Try.prog X m) m l_a0 x_a1 h) Q) :
    Tells (fun m => acallX Try.prog X m F_precentorlaw3_ValueSame [l_a0, x_a1] h) Q :=
  Tells.later (q.le fun m => (E_precentorlaw3_ValueSame (acallX Try.prog X m) m l_a0 x_a1 h) ▸ acallX_le Try.func6 hx m h)

/-! ### precentor/precentorlaw3.known -/

def S_precentorlaw3_known (P : Program) (call : FuncId → List AVal → Heap → Res AVal) (fuel : Nat) (h : Heap) : Res AVal :=
lt (retK P [.tmp 0]) fun k =>
arb (.val (.bool false) h) call fun v_0 h1 =>
arb (.call F_precentorlaw3_ValueKnown [] h1) call fun v_2 h3 =>
arb (.val v_2 h3) call fun v_4 h5 =>
k .ret (upd (upd (upd (enterT []) 0 v_0) 1 v_2) 0 v_4) h5
theorem E_precentorlaw3_known (call : FuncId → List AVal → Heap → Res AVal) (fuel : Nat) (h : Heap) : bodyR Try.prog call fuel Try.f20 [] h = S_precentorlaw3_known Try.prog call fuel  h := by kernel_rfl
theorem R_precentorlaw3_known {X : XTab} {h : Heap} {Q : AVal → Heap → Prop} (hx : X F_precentorlaw3_known [] = none) (q : Tells (fun m => S_precentorlaw3_known Try.prog (acallX Try.prog X m) m  h) Q) :
    Tells (fun m => acallX Try.prog X m F_precentorlaw3_known [] h) Q :=
  Tells.later (q.le fun m => (E_precentorlaw3_known (acallX Try.prog X m) m  h) ▸ acallX_le Try.func20 hx m h)


end Go.Proofs.Ytjoniicebjpdaaa
