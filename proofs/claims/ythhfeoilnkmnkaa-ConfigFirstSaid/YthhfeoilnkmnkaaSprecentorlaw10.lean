/-
  Functions of precentorlaw10 in the form of YthhfeoilnkmnkaaABS (printed by a program of ours, gen.lean).
-/
import Derived.Test.YthhfeoilnkmnkaaSIds
set_option linter.unusedVariables false
namespace Go.Proofs.Ythhfeoilnkmnkaa
open Go.Ab
/-! ### precentor/precentorlaw10.ConfigTells -/
def J_precentorlaw10_ConfigTells_0 (P : Program) (call : FuncId → List AVal → Heap → Res AVal) (fuel : Nat) (k : Kn (AVal)) (t : T) (h : Heap) : Res (AVal) :=
arbE (.call F_precentorlaw10_known [] h) call fun v_36 h37 => lt h37 fun g37 => ifb (true && true) <|
obv (.val v_36 g37) fun v_38 =>
gdr (wantB v_38 true) (fun c => obv (.of (ldn 6 g37 (t 10)) g37) fun v_40 => ifb true <|
c true v_40 g37) g37 fun w42 v_40 h42 =>
gdr (wantB v_38 true) (fun c => arbE (.call F_config_Check [v_40] h42) call fun v_43 h44 => lt h44 fun g44 => ifb (true && true) <|
c true v_43 g44) h42 fun w45 v_43 h45 =>
gdr (wantB v_38 true) (fun c => obv (.of (ldn 6 h45 (t 10)) h45) fun v_46 => ifb ((!w45 || isV v_46 (arVal (.of (ldn 6 h42 (t 10)) h42))) && true) <|
c true v_46 h45) h45 fun w48 v_46 h48 =>
gdr (wantB v_38 true) (fun c => arbE (.call F_precentorref9_Check [v_46] h48) call fun v_49 h50 => lt h50 fun g50 => ifb (true && true) <|
c true v_49 g50) h48 fun w51 v_49 h51 =>
gdr (wantB v_38 true) (fun c => obv (.of (aBin P .eql 33 (.tmp 69) (.tmp 71) v_43 v_49) h51) fun v_52 =>
c true v_52 h51) h51 fun w54 v_52 h54 =>
obv (pkR v_38 v_52 (.bool false) h54) fun v_55 =>
obv (.val v_55 h54) fun v_57 =>
gdr (wantB v_57 true) (fun c => obv (.of (ldn 6 h54 (t 10)) h54) fun v_59 => ifb true <|
c true v_59 h54) h54 fun w61 v_59 h61 =>
gdr (wantB v_57 true) (fun c => arbE (.call F_config_Brokers [v_59] h61) call fun v_62 h63 => lt h63 fun g63 => ifb (true && true) <|
c true v_62 g63) h61 fun w64 v_62 h64 =>
gdr (wantB v_57 true) (fun c => obv (.of (ldn 6 h64 (t 10)) h64) fun v_65 => ifb ((!w64 || isV v_65 (arVal (.of (ldn 6 h61 (t 10)) h61))) && true) <|
c true v_65 h64) h64 fun w67 v_65 h67 =>
gdr (wantB v_57 true) (fun c => arbE (.call F_precentorref9_Brokers [v_65] h67) call fun v_68 h69 => lt h69 fun g69 => ifb (true && true) <|
c true v_68 g69) h67 fun w70 v_68 h70 =>
gdr (wantB v_57 true) (fun c => obv (.of (aBin P .eql 3 (.tmp 76) (.tmp 78) v_62 v_68) h70) fun v_71 =>
c true v_71 h70) h70 fun w73 v_71 h73 =>
obv (pkR v_57 v_71 (.bool false) h73) fun v_74 =>
obv (.val v_74 h73) fun v_76 =>
gdr (wantB v_76 true) (fun c => obv (.of (ldn 6 h73 (t 10)) h73) fun v_78 => ifb true <|
c true v_78 h73) h73 fun w80 v_78 h80 =>
gdr (wantB v_76 true) (fun c => arbE (.call F_config_Flying [v_78] h80) call fun v_81 h82 => lt h82 fun g82 => ifb (true && true) <|
c true v_81 g82) h80 fun w83 v_81 h83 =>
gdr (wantB v_76 true) (fun c => obv (.of (ldn 6 h83 (t 10)) h83) fun v_84 => ifb ((!w83 || isV v_84 (arVal (.of (ldn 6 h80 (t 10)) h80))) && true) <|
c true v_84 h83) h83 fun w86 v_84 h86 =>
gdr (wantB v_76 true) (fun c => arbE (.call F_precentorref9_Flying [v_84] h86) call fun v_87 h88 => lt h88 fun g88 => ifb (true && true) <|
c true v_87 g88) h86 fun w89 v_87 h89 =>
gdr (wantB v_76 true) (fun c => obv (.of (aBin P .eql 3 (.tmp 83) (.tmp 85) v_81 v_87) h89) fun v_90 =>
c true v_90 h89) h89 fun w92 v_90 h92 =>
obv (pkR v_76 v_90 (.bool false) h92) fun v_93 =>
obv (.val v_93 h92) fun v_95 =>
gdr (wantB v_95 true) (fun c => obv (.of (ldn 6 h92 (t 10)) h92) fun v_97 => ifb true <|
c true v_97 h92) h92 fun w99 v_97 h99 =>
gdr (wantB v_95 true) (fun c => arbE (.call F_config_Room [v_97] h99) call fun v_100 h101 => lt h101 fun g101 => ifb (true && true) <|
c true v_100 g101) h99 fun w102 v_100 h102 =>
gdr (wantB v_95 true) (fun c => obv (.of (ldn 6 h102 (t 10)) h102) fun v_103 => ifb ((!w102 || isV v_103 (arVal (.of (ldn 6 h99 (t 10)) h99))) && true) <|
c true v_103 h102) h102 fun w105 v_103 h105 =>
gdr (wantB v_95 true) (fun c => arbE (.call F_precentorref9_Room [v_103] h105) call fun v_106 h107 => lt h107 fun g107 => ifb (true && true) <|
c true v_106 g107) h105 fun w108 v_106 h108 =>
gdr (wantB v_95 true) (fun c => obv (.of (aBin P .eql 3 (.tmp 90) (.tmp 92) v_100 v_106) h108) fun v_109 =>
c true v_109 h108) h108 fun w111 v_109 h111 =>
obv (pkR v_95 v_109 (.bool false) h111) fun v_112 =>
obv (.val v_112 h111) fun v_114 =>
k .ret (upd (upd (upd (upd (upd (upd (upd (upd (upd (upd (upd (upd (upd (upd (upd (upd (upd (upd (upd (upd (upd (upd (upd (upd (upd (upd (upd (upd (upd (upd t 66 v_36) 67 v_38) 68 v_40) 69 v_43) 70 v_46) 71 v_49) 72 v_52) 73 v_55) 74 v_57) 75 v_59) 76 v_62) 77 v_65) 78 v_68) 79 v_71) 80 v_74) 81 v_76) 82 v_78) 83 v_81) 84 v_84) 85 v_87) 86 v_90) 87 v_93) 88 v_95) 89 v_97) 90 v_100) 91 v_103) 92 v_106) 93 v_109) 94 v_112) 8 v_114) h111

def S_precentorlaw10_ConfigTells (P : Program) (call : FuncId → List AVal → Heap → Res AVal) (fuel : Nat) (raw_a0 l_a1 how_a2 n_a3 : AVal) (h : Heap) : Res AVal :=
lt (retK P [.tmp 8]) fun k =>
arb (boxR raw_a0 h) call fun raw_0 h1 =>
arb (.val (.bool false) h1) call fun v_2 h3 =>
arb (.val l_a1 h3) call fun v_4 h5 =>
arb (.of (bldR [.nils, (.int .i64 0)] [(0, 1, v_4)]) h5) call fun v_6 h7 =>
arb (boxR v_6 h7) call fun v_8 h9 =>
arb (.val v_8 h9) call fun f_10 h11 =>
arb (.of (ldn 6 h11 raw_0) h11) call fun v_12 h13 =>
arb (newR [.nils, (.int .i64 0), (.int .i64 0), (.int .i64 0), (.int .i64 0), (.int .i64 0)] h13) call fun c_14 h15 =>
arb (stR 6 h15 c_14 v_12) call fun v_16 h17 =>
arb (.of (fadR 0 c_14) h17) call fun v_18 h19 =>
arb (.of (ld1 h19 v_18) h19) call fun v_20 h21 =>
arb (.of (fadR 0 c_14) h21) call fun v_22 h23 =>
arb (.of (ld1 h23 v_22) h23) call fun v_24 h25 =>
arb (.of (lenL v_24) h25) call fun v_26 h27 =>
arb (.of (aPureB P (Builtin.min_ #[3, 3] 3) [v_26, (.int .i64 9)]) h27) call fun v_28 h29 =>
arb (.of (slcR 1 v_20 none (some v_28) none) h29) call fun v_30 h31 =>
arb (.of (fadR 0 c_14) h31) call fun v_32 h33 =>
arb (stR 1 h33 v_32 v_30) call fun v_34 h35 =>
lt (sqK (J_precentorlaw10_ConfigTells_0 P call fuel k) k) fun k116 =>
arb (.val f_10 h35) call fun v_117 h118 =>
arb (.call F_precentorhand_Feed_Next [v_117, (.int .i64 4)] h118) call fun v_119 h120 =>
arb (.of (aBin P .gtr 3 (.tmp 25) (.const (.int .i64 0)) v_119 (.int .i64 0)) h120) call fun v_121 h122 =>
cb v_121 (
arb (.val f_10 h122) call fun v_123 h124 =>
arb (.call F_precentorhand_Feed_Config [v_123, (.int .i64 8)] h124) call fun v_125 h126 =>
arb (stR 6 h126 c_14 v_125) call fun v_127 h128 =>
arb (.val n_a3 h128) call fun v_129 h130 =>
arb (.of (bldR [(.int .i64 0), (.int .i64 0), (.int .i64 0), (.int .i64 0)] [(0, 1, (.int .i64 0)), (1, 1, (.int .i64 9)), (2, 1, (.int .i64 (-1))), (3, 1, v_129)]) h130) call fun v_131 h132 =>
arb (.val n_a3 h132) call fun v_133 h134 =>
arb (.call F_precentorhand_Pick [v_133, (.int .i64 4)] h134) call fun v_135 h136 =>
arb (.of (ixa1 4 1 v_131 v_135) h136) call fun v_137 h138 =>
arb (.val v_137 h138) call fun edge_139 h140 =>
arb (.val how_a2 h140) call fun v_141 h142 =>
arb (.call F_precentorhand_Pick [v_141, (.int .i64 8)] h142) call fun v_143 h144 =>
lt (blkK 0 k116) fun k145 =>
arb (.of (aBin P .eql 3 (.tmp 35) (.const (.int .i64 0)) v_143 (.int .i64 0)) h144) call fun v_146 h147 =>
arb (.val v_146 h147) call fun v_148 h149 =>
cb v_148 (
arb (.val edge_139 h149) call fun v_150 h151 =>
arb (.of (fadR 1 c_14) h151) call fun v_152 h153 =>
arb (stR 1 h153 v_152 v_150) call fun v_154 h155 =>
k145 .normal (upd (upd (upd (upd (upd (upd (upd (upd (upd (upd (upd (upd (upd (upd (upd (upd (upd (upd (upd (upd (upd (upd (upd (upd (upd (upd (upd (upd (upd (upd (upd (upd (upd (enterT [raw_a0, l_a1, how_a2, n_a3]) 4 raw_0) 8 v_2) 12 v_4) 13 v_6) 14 v_8) 9 f_10) 15 v_12) 10 c_14) 16 v_18) 17 v_20) 18 v_22) 19 v_24) 20 v_26) 21 v_28) 22 v_30) 23 v_32) 24 v_117) 25 v_119) 26 v_121) 27 v_123) 28 v_125) 29 v_129) 30 v_131) 31 v_133) 32 v_135) 33 v_137) 11 edge_139) 34 v_141) 35 v_143) 37 v_146) 36 v_148) 38 v_150) 39 v_152) h155) (
arb (.of (aBin P .eql 3 (.tmp 35) (.const (.int .i64 1)) v_143 (.int .i64 1)) h149) call fun v_156 h157 =>
arb (.val v_156 h157) call fun v_158 h159 =>
cb v_158 (
arb (.val edge_139 h159) call fun v_160 h161 =>
arb (.of (fadR 2 c_14) h161) call fun v_162 h163 =>
arb (stR 1 h163 v_162 v_160) call fun v_164 h165 =>
k145 .normal (upd (upd (upd (upd (upd (upd (upd (upd (upd (upd (upd (upd (upd (upd (upd (upd (upd (upd (upd (upd (upd (upd (upd (upd (upd (upd (upd (upd (upd (upd (upd (upd (upd (upd (upd (enterT [raw_a0, l_a1, how_a2, n_a3]) 4 raw_0) 8 v_2) 12 v_4) 13 v_6) 14 v_8) 9 f_10) 15 v_12) 10 c_14) 16 v_18) 17 v_20) 18 v_22) 19 v_24) 20 v_26) 21 v_28) 22 v_30) 23 v_32) 24 v_117) 25 v_119) 26 v_121) 27 v_123) 28 v_125) 29 v_129) 30 v_131) 31 v_133) 32 v_135) 33 v_137) 11 edge_139) 34 v_141) 35 v_143) 37 v_146) 36 v_148) 41 v_156) 40 v_158) 42 v_160) 43 v_162) h165) (
arb (.of (aBin P .eql 3 (.tmp 35) (.const (.int .i64 2)) v_143 (.int .i64 2)) h159) call fun v_166 h167 =>
arb (.val v_166 h167) call fun v_168 h169 =>
cb v_168 (
arb (.val edge_139 h169) call fun v_170 h171 =>
arb (.of (fadR 3 c_14) h171) call fun v_172 h173 =>
arb (stR 1 h173 v_172 v_170) call fun v_174 h175 =>
k145 .normal (upd (upd (upd (upd (upd (upd (upd (upd (upd (upd (upd (upd (upd (upd (upd (upd (upd (upd (upd (upd (upd (upd (upd (upd (upd (upd (upd (upd (upd (upd (upd (upd (upd (upd (upd (upd (upd (enterT [raw_a0, l_a1, how_a2, n_a3]) 4 raw_0) 8 v_2) 12 v_4) 13 v_6) 14 v_8) 9 f_10) 15 v_12) 10 c_14) 16 v_18) 17 v_20) 18 v_22) 19 v_24) 20 v_26) 21 v_28) 22 v_30) 23 v_32) 24 v_117) 25 v_119) 26 v_121) 27 v_123) 28 v_125) 29 v_129) 30 v_131) 31 v_133) 32 v_135) 33 v_137) 11 edge_139) 34 v_141) 35 v_143) 37 v_146) 36 v_148) 41 v_156) 40 v_158) 45 v_166) 44 v_168) 46 v_170) 47 v_172) h175) (
arb (.of (aBin P .eql 3 (.tmp 35) (.const (.int .i64 3)) v_143 (.int .i64 3)) h169) call fun v_176 h177 =>
arb (.val v_176 h177) call fun v_178 h179 =>
cb v_178 (
arb (.val edge_139 h179) call fun v_180 h181 =>
arb (.of (fadR 4 c_14) h181) call fun v_182 h183 =>
arb (stR 1 h183 v_182 v_180) call fun v_184 h185 =>
k145 .normal (upd (upd (upd (upd (upd (upd (upd (upd (upd (upd (upd (upd (upd (upd (upd (upd (upd (upd (upd (upd (upd (upd (upd (upd (upd (upd (upd (upd (upd (upd (upd (upd (upd (upd (upd (upd (upd (upd (upd (enterT [raw_a0, l_a1, how_a2, n_a3]) 4 raw_0) 8 v_2) 12 v_4) 13 v_6) 14 v_8) 9 f_10) 15 v_12) 10 c_14) 16 v_18) 17 v_20) 18 v_22) 19 v_24) 20 v_26) 21 v_28) 22 v_30) 23 v_32) 24 v_117) 25 v_119) 26 v_121) 27 v_123) 28 v_125) 29 v_129) 30 v_131) 31 v_133) 32 v_135) 33 v_137) 11 edge_139) 34 v_141) 35 v_143) 37 v_146) 36 v_148) 41 v_156) 40 v_158) 45 v_166) 44 v_168) 49 v_176) 48 v_178) 50 v_180) 51 v_182) h185) (
arb (.of (aBin P .eql 3 (.tmp 35) (.const (.int .i64 4)) v_143 (.int .i64 4)) h179) call fun v_186 h187 =>
arb (.val v_186 h187) call fun v_188 h189 =>
cb v_188 (
arb (.val n_a3 h189) call fun v_190 h191 =>
arb (.of (fadR 5 c_14) h191) call fun v_192 h193 =>
arb (stR 1 h193 v_192 v_190) call fun v_194 h195 =>
k145 .normal (upd (upd (upd (upd (upd (upd (upd (upd (upd (upd (upd (upd (upd (upd (upd (upd (upd (upd (upd (upd (upd (upd (upd (upd (upd (upd (upd (upd (upd (upd (upd (upd (upd (upd (upd (upd (upd (upd (upd (upd (upd (enterT [raw_a0, l_a1, how_a2, n_a3]) 4 raw_0) 8 v_2) 12 v_4) 13 v_6) 14 v_8) 9 f_10) 15 v_12) 10 c_14) 16 v_18) 17 v_20) 18 v_22) 19 v_24) 20 v_26) 21 v_28) 22 v_30) 23 v_32) 24 v_117) 25 v_119) 26 v_121) 27 v_123) 28 v_125) 29 v_129) 30 v_131) 31 v_133) 32 v_135) 33 v_137) 11 edge_139) 34 v_141) 35 v_143) 37 v_146) 36 v_148) 41 v_156) 40 v_158) 45 v_166) 44 v_168) 49 v_176) 48 v_178) 53 v_186) 52 v_188) 54 v_190) 55 v_192) h195) (
arb (.of (aBin P .eql 3 (.tmp 35) (.const (.int .i64 5)) v_143 (.int .i64 5)) h189) call fun v_196 h197 =>
arb (.val v_196 h197) call fun v_198 h199 =>
cb v_198 (
arb (bslR 1 [] 0 h199 []) call fun v_200 h201 =>
arb (.of (fadR 0 c_14) h201) call fun v_202 h203 =>
arb (.of (ld1 h203 v_202) h203) call fun v_204 h205 =>
arb (appR 1 8 h205 v_200 v_204) call fun v_206 h207 =>
arb (.val edge_139 h207) call fun v_208 h209 =>
arb (bslR 1 [(.int .i64 0)] 1 h209 [(0, 1, v_208)]) call fun v_210 h211 =>
arb (appR 1 8 h211 v_206 v_210) call fun v_212 h213 =>
arb (.of (fadR 0 c_14) h213) call fun v_214 h215 =>
arb (stR 1 h215 v_214 v_212) call fun v_216 h217 =>
k145 .normal (upd (upd (upd (upd (upd (upd (upd (upd (upd (upd (upd (upd (upd (upd (upd (upd (upd (upd (upd (upd (upd (upd (upd (upd (upd (upd (upd (upd (upd (upd (upd (upd (upd (upd (upd (upd (upd (upd (upd (upd (upd (upd (upd (upd (upd (upd (upd (upd (upd (enterT [raw_a0, l_a1, how_a2, n_a3]) 4 raw_0) 8 v_2) 12 v_4) 13 v_6) 14 v_8) 9 f_10) 15 v_12) 10 c_14) 16 v_18) 17 v_20) 18 v_22) 19 v_24) 20 v_26) 21 v_28) 22 v_30) 23 v_32) 24 v_117) 25 v_119) 26 v_121) 27 v_123) 28 v_125) 29 v_129) 30 v_131) 31 v_133) 32 v_135) 33 v_137) 11 edge_139) 34 v_141) 35 v_143) 37 v_146) 36 v_148) 41 v_156) 40 v_158) 45 v_166) 44 v_168) 49 v_176) 48 v_178) 53 v_186) 52 v_188) 57 v_196) 56 v_198) 58 v_200) 59 v_202) 60 v_204) 61 v_206) 62 v_208) 63 v_210) 64 v_212) 65 v_214) h217) (
k145 .normal (upd (upd (upd (upd (upd (upd (upd (upd (upd (upd (upd (upd (upd (upd (upd (upd (upd (upd (upd (upd (upd (upd (upd (upd (upd (upd (upd (upd (upd (upd (upd (upd (upd (upd (upd (upd (upd (upd (upd (upd (upd (enterT [raw_a0, l_a1, how_a2, n_a3]) 4 raw_0) 8 v_2) 12 v_4) 13 v_6) 14 v_8) 9 f_10) 15 v_12) 10 c_14) 16 v_18) 17 v_20) 18 v_22) 19 v_24) 20 v_26) 21 v_28) 22 v_30) 23 v_32) 24 v_117) 25 v_119) 26 v_121) 27 v_123) 28 v_125) 29 v_129) 30 v_131) 31 v_133) 32 v_135) 33 v_137) 11 edge_139) 34 v_141) 35 v_143) 37 v_146) 36 v_148) 41 v_156) 40 v_158) 45 v_166) 44 v_168) 49 v_176) 48 v_178) 53 v_186) 52 v_188) 57 v_196) 56 v_198) h199))))))) (
k116 .normal (upd (upd (upd (upd (upd (upd (upd (upd (upd (upd (upd (upd (upd (upd (upd (upd (upd (upd (upd (enterT [raw_a0, l_a1, how_a2, n_a3]) 4 raw_0) 8 v_2) 12 v_4) 13 v_6) 14 v_8) 9 f_10) 15 v_12) 10 c_14) 16 v_18) 17 v_20) 18 v_22) 19 v_24) 20 v_26) 21 v_28) 22 v_30) 23 v_32) 24 v_117) 25 v_119) 26 v_121) h122)
theorem E_precentorlaw10_ConfigTells (call : FuncId → List AVal → Heap → Res AVal) (fuel : Nat) (raw_a0 l_a1 how_a2 n_a3 : AVal) (h : Heap) : bodyR Try.prog call fuel Try.f3 [raw_a0, l_a1, how_a2, n_a3] h = S_precentorlaw10_ConfigTells Try.prog call fuel raw_a0 l_a1 how_a2 n_a3 h := by kernel_rfl
theorem R_precentorlaw10_ConfigTells {X : XTab} (raw_a0 l_a1 how_a2 n_a3 : AVal) {h : Heap} {Q : AVal → Heap → Prop} (hx : X F_precentorlaw10_ConfigTells [raw_a0, l_a1, how_a2, n_a3] = none) (q : Tells (fun m => S_precentorlaw10_ConfigTells Try.prog (acallX Try.prog X m) m raw_a0 l_a1 how_a2 n_a3 h) Q) :
    Tells (fun m => acallX Try.prog X m F_precentorlaw10_ConfigTells [raw_a0, l_a1, how_a2, n_a3] h) Q :=
  Tells.later (q.le fun m => (E_precentorlaw10_ConfigTells (acallX Try.prog X m) m raw_a0 l_a1 how_a2 n_a3 h) ▸ acallX_le Try.func3 hx m h)

/-! ### precentor/precentorlaw10.ConfigGrows -/
def J_precentorlaw10_ConfigGrows_1 (P : Program) (call : FuncId → List AVal → Heap → Res AVal) (fuel : Nat) (k : Kn (AVal)) (t : T) (h : Heap) : Res (AVal) :=
arb (.of (ldn 6 h (t 4)) h) call fun v_74 h75 =>
arb (newR [.nils, (.int .i64 0), (.int .i64 0), (.int .i64 0), (.int .i64 0), (.int .i64 0)] h75) call fun g_76 h77 =>
arb (stR 6 h77 g_76 v_74) call fun v_78 h79 =>
arb (.of (fadR 4 g_76) h79) call fun v_80 h81 =>
arb (.of (ld1 h81 v_80) h81) call fun v_82 h83 =>
arb (.of (aBin P .add 3 (.tmp 68) (.const (.int .i64 1)) v_82 (.int .i64 1)) h83) call fun v_84 h85 =>
arb (.of (fadR 4 g_76) h85) call fun v_86 h87 =>
arb (stR 1 h87 v_86 v_84) call fun v_88 h89 =>
obv (.of (ldn 6 h89 (t 4)) h89) fun v_90 => ifb true <|
arbE (.call F_config_Flying [v_90] h89) call fun v_92 h93 => lt h93 fun g93 => ifb (true && true) <|
obv (.of (ldn 6 g93 (t 4)) g93) fun v_94 => ifb (isV v_94 (arVal (.of (ldn 6 h89 (t 4)) h89)) && true) <|
arbE (.call F_config_Brokers [v_94] g93) call fun v_96 h97 => lt h97 fun g97 => ifb (true && true) <|
obv (.of (fadR 4 (t 4)) g97) fun v_98 =>
obv (.of (ld1 g97 v_98) g97) fun v_100 => ifb (isV v_100 (arVal (.of (ld1 g93 v_98) g93)) && (isV v_100 (arVal (.of (ld1 h89 v_98) h89)) && true)) <|
obv (.of (aBin P .mul 3 (.tmp 74) (.tmp 76) v_96 v_100) g97) fun v_102 =>
obv (.of (aBin P .eql 3 (.tmp 72) (.tmp 77) v_92 v_102) g97) fun v_104 =>
obv (.val v_104 g97) fun v_106 =>
gdr (wantB v_106 true) (fun c => obv (.of (fadR 4 g_76) g97) fun v_108 =>
c true v_108 g97) g97 fun w110 v_108 h110 =>
gdr (wantB v_106 true) (fun c => obv (.of (ld1 h110 v_108) h110) fun v_111 => ifb true <|
c true v_111 h110) h110 fun w113 v_111 h113 =>
gdr (wantB v_106 true) (fun c => obv (.of (aBin P .gtr 3 (.tmp 81) (.const (.int .i64 4)) v_111 (.int .i64 4)) h113) fun v_114 =>
c true v_114 h113) h113 fun w116 v_114 h116 =>
gdr (wantB v_106 true) (fun c => obv (.val v_114 h116) fun v_117 =>
c true v_117 h116) h116 fun w119 v_117 h119 =>
gdr (wantB v_117 false) (fun c => obv (.of (ldn 6 h119 g_76) h119) fun v_120 => ifb true <|
c true v_120 h119) h119 fun w122 v_120 h122 =>
gdr (wantB v_117 false) (fun c => arbE (.call F_config_Room [v_120] h122) call fun v_123 h124 => lt h124 fun g124 => ifb (true && true) <|
c true v_123 g124) h122 fun w125 v_123 h125 =>
gdr (wantB v_117 false) (fun c => obv (.of (ldn 6 h125 (t 4)) h125) fun v_126 => ifb ((!w125 || isV v_126 (arVal (.of (ldn 6 h122 (t 4)) h122))) && true) <|
c true v_126 h125) h125 fun w128 v_126 h128 =>
gdr (wantB v_117 false) (fun c => arbE (.call F_config_Room [v_126] h128) call fun v_129 h130 => lt h130 fun g130 => ifb (true && true) <|
c true v_129 g130) h128 fun w131 v_129 h131 =>
gdr (wantB v_117 false) (fun c => obv (.of (ldn 6 h131 (t 4)) h131) fun v_132 => ifb ((!w131 || isV v_132 (arVal (.of (ldn 6 h128 (t 4)) h128))) && ((!w125 || isV v_132 (arVal (.of (ldn 6 h122 (t 4)) h122))) && true)) <|
c true v_132 h131) h131 fun w134 v_132 h134 =>
gdr (wantB v_117 false) (fun c => arbE (.call F_config_Brokers [v_132] h134) call fun v_135 h136 => lt h136 fun g136 => ifb (true && true) <|
c true v_135 g136) h134 fun w137 v_135 h137 =>
gdr (wantB v_117 false) (fun c => obv (.of (ldn 6 h137 (t 4)) h137) fun v_138 => ifb ((!w137 || isV v_138 (arVal (.of (ldn 6 h134 (t 4)) h134))) && ((!w131 || isV v_138 (arVal (.of (ldn 6 h128 (t 4)) h128))) && ((!w125 || isV v_138 (arVal (.of (ldn 6 h122 (t 4)) h122))) && true))) <|
c true v_138 h137) h137 fun w140 v_138 h140 =>
gdr (wantB v_117 false) (fun c => arbE (.call F_config_Brokers [v_138] h140) call fun v_141 h142 => lt h142 fun g142 => ifb (true && true) <|
c true v_141 g142) h140 fun w143 v_141 h143 =>
gdr (wantB v_117 false) (fun c => obv (.of (aBin P .add 3 (.tmp 91) (.const (.int .i64 1)) v_141 (.int .i64 1)) h143) fun v_144 =>
c true v_144 h143) h143 fun w146 v_144 h146 =>
gdr (wantB v_117 false) (fun c => obv (.of (aBin P .mul 3 (.tmp 89) (.tmp 92) v_135 v_144) h146) fun v_147 =>
c true v_147 h146) h146 fun w149 v_147 h149 =>
gdr (wantB v_117 false) (fun c => obv (.of (aBin P .add 3 (.tmp 87) (.tmp 93) v_129 v_147) h149) fun v_150 =>
c true v_150 h149) h149 fun w152 v_150 h152 =>
gdr (wantB v_117 false) (fun c => obv (.of (aBin P .eql 3 (.tmp 85) (.tmp 94) v_123 v_150) h152) fun v_153 =>
c true v_153 h152) h152 fun w155 v_153 h155 =>
gdr (wantB v_106 true) (fun c => obv (pkR v_117 (.bool true) v_153 h155) fun v_156 =>
c true v_156 h155) h155 fun w158 v_156 h158 =>
obv (pkR v_106 v_156 (.bool false) h158) fun v_159 =>
obv (.val v_159 h158) fun v_161 =>
k .ret (upd (upd (upd (upd (upd (upd (upd (upd (upd (upd (upd (upd (upd (upd (upd (upd (upd (upd (upd (upd (upd (upd (upd (upd (upd (upd (upd (upd (upd (upd (upd (upd (upd (upd t 66 v_74) 7 g_76) 67 v_80) 68 v_82) 69 v_84) 70 v_86) 71 v_90) 72 v_92) 73 v_94) 74 v_96) 75 v_98) 76 v_100) 77 v_102) 78 v_104) 79 v_106) 80 v_108) 81 v_111) 82 v_114) 83 v_117) 84 v_120) 85 v_123) 86 v_126) 87 v_129) 88 v_132) 89 v_135) 90 v_138) 91 v_141) 92 v_144) 93 v_147) 94 v_150) 95 v_153) 96 v_156) 97 v_159) 2 v_161) h158

def J_precentorlaw10_ConfigGrows_0 (P : Program) (call : FuncId → List AVal → Heap → Res AVal) (fuel : Nat) (k : Kn (AVal)) (t : T) (h : Heap) : Res (AVal) :=
arb (.of (ldn 6 h (t 4)) h) call fun v_18 h19 =>
arb (newR [.nils, (.int .i64 0), (.int .i64 0), (.int .i64 0), (.int .i64 0), (.int .i64 0)] h19) call fun d_20 h21 =>
arb (stR 6 h21 d_20 v_18) call fun v_22 h23 =>
arbV (bslR 1 [] 0 h23 []) fun v_24 h25 =>
obv (.of (fadR 0 (t 4)) h25) fun v_26 =>
obv (.of (ld1 (killIf true h25 h23.next) v_26) (killIf true h25 h23.next)) fun v_28 => ifb true <|
arbE (appR 1 8 h25 v_24 v_28) call fun v_30 h31 => lt h31 fun g31 => ifb (true && true) <|
obv (.val (t 3) g31) fun v_32 =>
obv (.of (fadR 0 (t 4)) g31) fun v_34 =>
obv (.of (ld1 (killIf true g31 h23.next) v_34) (killIf true g31 h23.next)) fun v_36 => ifb (isV v_36 (arVal (.of (ld1 (killIf true h25 h23.next) v_34) (killIf true h25 h23.next))) && true) <|
obv (.of (lenL v_36) g31) fun v_38 =>
obv (.of (aBin P .add 3 (.tmp 28) (.const (.int .i64 1)) v_38 (.int .i64 1)) g31) fun v_40 =>
arbE (.call F_precentorhand_Feed_Next [v_32, v_40] g31) call fun v_42 h43 => lt h43 fun g43 => ifb (true && true) <|
arbV (bslR 1 [(.int .i64 0)] 1 g43 [(0, 1, v_42)]) fun v_44 h45 =>
arbE (appR 1 8 h45 v_30 v_44) call fun v_46 h47 => lt h47 fun g47 => ifb (true && true) <|
obv (.of (fadR 0 d_20) g47) fun v_48 =>
arbE (stR 1 g47 v_48 v_46) call fun v_50 h51 => lt h51 fun g51 => ifb (true && true) <|
arb (.of (ldn 6 g51 (t 4)) g51) call fun v_52 h53 =>
arb (newR [.nils, (.int .i64 0), (.int .i64 0), (.int .i64 0), (.int .i64 0), (.int .i64 0)] h53) call fun e_54 h55 =>
arb (stR 6 h55 e_54 v_52) call fun v_56 h57 =>
arb (.of (fadR 1 e_54) h57) call fun v_58 h59 =>
arb (stR 1 h59 v_58 (.int .i64 1)) call fun v_60 h61 =>
arb (.of (fadR 2 e_54) h61) call fun v_62 h63 =>
arb (stR 1 h63 v_62 (.int .i64 8)) call fun v_64 h65 =>
arb (.of (fadR 3 e_54) h65) call fun v_66 h67 =>
arb (stR 1 h67 v_66 (.int .i64 1)) call fun v_68 h69 =>
arb (.of (fadR 5 e_54) h69) call fun v_70 h71 =>
arb (stR 1 h71 v_70 (.int .i64 0)) call fun v_72 h73 =>
lt (sqK (J_precentorlaw10_ConfigGrows_1 P call fuel k) k) fun k163 =>
obv (.of (ldn 6 h73 d_20) h73) fun v_164 => ifb true <|
arbE (.call F_config_Room [v_164] h73) call fun v_166 h167 => lt h167 fun g167 => ifb (true && true) <|
obv (.of (ldn 6 g167 (t 4)) g167) fun v_168 => ifb (isV v_168 (arVal (.of (ldn 6 h73 (t 4)) h73)) && true) <|
arbE (.call F_config_Room [v_168] g167) call fun v_170 h171 => lt h171 fun g171 => ifb (true && true) <|
obv (.of (aBin P .leq 3 (.tmp 40) (.tmp 42) v_166 v_170) g171) fun v_172 =>
obv (.val v_172 g171) fun v_174 =>
gdr (wantB v_174 false) (fun c => obv (.of (ldn 6 g171 d_20) g171) fun v_176 => ifb true <|
c true v_176 g171) g171 fun w178 v_176 h178 =>
gdr (wantB v_174 false) (fun c => arbE (.call F_config_Brokers [v_176] h178) call fun v_179 h180 => lt h180 fun g180 => ifb (true && true) <|
c true v_179 g180) h178 fun w181 v_179 h181 =>
gdr (wantB v_174 false) (fun c => obv (.of (ldn 6 h181 (t 4)) h181) fun v_182 => ifb ((!w181 || isV v_182 (arVal (.of (ldn 6 h178 (t 4)) h178))) && true) <|
c true v_182 h181) h181 fun w184 v_182 h184 =>
gdr (wantB v_174 false) (fun c => arbE (.call F_config_Brokers [v_182] h184) call fun v_185 h186 => lt h186 fun g186 => ifb (true && true) <|
c true v_185 g186) h184 fun w187 v_185 h187 =>
gdr (wantB v_174 false) (fun c => obv (.of (aBin P .add 3 (.tmp 48) (.const (.int .i64 1)) v_185 (.int .i64 1)) h187) fun v_188 =>
c true v_188 h187) h187 fun w190 v_188 h190 =>
gdr (wantB v_174 false) (fun c => obv (.of (aBin P .neq 3 (.tmp 46) (.tmp 49) v_179 v_188) h190) fun v_191 =>
c true v_191 h190) h190 fun w193 v_191 h193 =>
obv (pkR v_174 (.bool true) v_191 h193) fun v_194 =>
obv (.val v_194 h193) fun v_196 =>
gdr (wantB v_196 false) (fun c => obv (.of (ldn 6 h193 e_54) h193) fun v_198 => ifb true <|
c true v_198 h193) h193 fun w200 v_198 h200 =>
gdr (wantB v_196 false) (fun c => arbE (.call F_config_Room [v_198] h200) call fun v_201 h202 => lt h202 fun g202 => ifb (true && true) <|
c true v_201 g202) h200 fun w203 v_201 h203 =>
gdr (wantB v_196 false) (fun c => obv (.of (ldn 6 h203 (t 4)) h203) fun v_204 => ifb ((!w203 || isV v_204 (arVal (.of (ldn 6 h200 (t 4)) h200))) && true) <|
c true v_204 h203) h203 fun w206 v_204 h206 =>
gdr (wantB v_196 false) (fun c => arbE (.call F_config_Room [v_204] h206) call fun v_207 h208 => lt h208 fun g208 => ifb (true && true) <|
c true v_207 g208) h206 fun w209 v_207 h209 =>
gdr (wantB v_196 false) (fun c => obv (.of (aBin P .neq 3 (.tmp 54) (.tmp 56) v_201 v_207) h209) fun v_210 =>
c true v_210 h209) h209 fun w212 v_210 h212 =>
obv (pkR v_196 (.bool true) v_210 h212) fun v_213 =>
obv (.val v_213 h212) fun v_215 =>
gdr (wantB v_215 false) (fun c => obv (.of (ldn 6 h212 e_54) h212) fun v_217 => ifb true <|
c true v_217 h212) h212 fun w219 v_217 h219 =>
gdr (wantB v_215 false) (fun c => arbE (.call F_config_Flying [v_217] h219) call fun v_220 h221 => lt h221 fun g221 => ifb (true && true) <|
c true v_220 g221) h219 fun w222 v_220 h222 =>
gdr (wantB v_215 false) (fun c => obv (.of (ldn 6 h222 (t 4)) h222) fun v_223 => ifb ((!w222 || isV v_223 (arVal (.of (ldn 6 h219 (t 4)) h219))) && true) <|
c true v_223 h222) h222 fun w225 v_223 h225 =>
gdr (wantB v_215 false) (fun c => arbE (.call F_config_Flying [v_223] h225) call fun v_226 h227 => lt h227 fun g227 => ifb (true && true) <|
c true v_226 g227) h225 fun w228 v_226 h228 =>
gdr (wantB v_215 false) (fun c => obv (.of (aBin P .neq 3 (.tmp 61) (.tmp 63) v_220 v_226) h228) fun v_229 =>
c true v_229 h228) h228 fun w231 v_229 h231 =>
obv (pkR v_215 (.bool true) v_229 h231) fun v_232 =>
cb v_232 (
arb (.val (.bool false) h231) call fun v_234 h235 =>
k163 .ret (upd (upd (upd (upd (upd (upd (upd (upd (upd (upd (upd (upd (upd (upd (upd (upd (upd (upd (upd (upd (upd (upd (upd (upd (upd (upd (upd (upd (upd (upd (upd (upd (upd (upd (upd (upd (upd (upd (upd (upd (upd (upd (upd (upd (upd (upd (upd (upd (upd t 20 v_18) 5 d_20) 21 v_24) 22 v_26) 23 v_28) 24 v_30) 25 v_32) 26 v_34) 27 v_36) 28 v_38) 29 v_40) 30 v_42) 31 v_44) 32 v_46) 33 v_48) 34 v_52) 6 e_54) 35 v_58) 36 v_62) 37 v_66) 38 v_70) 39 v_164) 40 v_166) 41 v_168) 42 v_170) 43 v_172) 44 v_174) 45 v_176) 46 v_179) 47 v_182) 48 v_185) 49 v_188) 50 v_191) 51 v_194) 52 v_196) 53 v_198) 54 v_201) 55 v_204) 56 v_207) 57 v_210) 58 v_213) 59 v_215) 60 v_217) 61 v_220) 62 v_223) 63 v_226) 64 v_229) 65 v_232) 2 v_234) h235) (
k163 .normal (upd (upd (upd (upd (upd (upd (upd (upd (upd (upd (upd (upd (upd (upd (upd (upd (upd (upd (upd (upd (upd (upd (upd (upd (upd (upd (upd (upd (upd (upd (upd (upd (upd (upd (upd (upd (upd (upd (upd (upd (upd (upd (upd (upd (upd (upd (upd (upd t 20 v_18) 5 d_20) 21 v_24) 22 v_26) 23 v_28) 24 v_30) 25 v_32) 26 v_34) 27 v_36) 28 v_38) 29 v_40) 30 v_42) 31 v_44) 32 v_46) 33 v_48) 34 v_52) 6 e_54) 35 v_58) 36 v_62) 37 v_66) 38 v_70) 39 v_164) 40 v_166) 41 v_168) 42 v_170) 43 v_172) 44 v_174) 45 v_176) 46 v_179) 47 v_182) 48 v_185) 49 v_188) 50 v_191) 51 v_194) 52 v_196) 53 v_198) 54 v_201) 55 v_204) 56 v_207) 57 v_210) 58 v_213) 59 v_215) 60 v_217) 61 v_220) 62 v_223) 63 v_226) 64 v_229) 65 v_232) h231)

def S_precentorlaw10_ConfigGrows (P : Program) (call : FuncId → List AVal → Heap → Res AVal) (fuel : Nat) (l_a0 : AVal) (h : Heap) : Res AVal :=
lt (retK P [.tmp 2]) fun k =>
arb (.val (.bool false) h) call fun v_0 h1 =>
arb (.val l_a0 h1) call fun v_2 h3 =>
arb (.of (bldR [.nils, (.int .i64 0)] [(0, 1, v_2)]) h3) call fun v_4 h5 =>
arb (boxR v_4 h5) call fun v_6 h7 =>
arb (.val v_6 h7) call fun f_8 h9 =>
arb (.val f_8 h9) call fun v_10 h11 =>
arb (.call F_precentorhand_Feed_Config [v_10, (.int .i64 7)] h11) call fun v_12 h13 =>
arb (newR [.nils, (.int .i64 0), (.int .i64 0), (.int .i64 0), (.int .i64 0), (.int .i64 0)] h13) call fun c_14 h15 =>
arb (stR 6 h15 c_14 v_12) call fun v_16 h17 =>
lt (sqK (J_precentorlaw10_ConfigGrows_0 P call fuel k) k) fun k236 =>
arb (.call F_precentorlaw10_known [] h17) call fun v_237 h238 =>
arb (.of (aUn P .not v_237) h238) call fun v_239 h240 =>
arb (.val v_239 h240) call fun v_241 h242 =>
gd (wantB v_241 false) (fun c => arb (.of (ldn 6 h242 c_14) h242) call c) h242 fun v_243 h244 =>
gd (wantB v_241 false) (fun c => arb (.call F_config_Check [v_243] h244) call c) h244 fun v_245 h246 =>
gd (wantB v_241 false) (fun c => arb (.of (aBin P .neq 33 (.tmp 17) (.const (.int .i64 0)) v_245 (.int .i64 0)) h246) call c) h246 fun v_247 h248 =>
arb (pkR v_241 (.bool true) v_247 h248) call fun v_249 h250 =>
cb v_249 (
arb (.val (.bool false) h250) call fun v_251 h252 =>
k236 .ret (upd (upd (upd (upd (upd (upd (upd (upd (upd (upd (upd (upd (upd (upd (upd (upd (enterT [l_a0]) 2 v_0) 8 v_2) 9 v_4) 10 v_6) 3 f_8) 11 v_10) 12 v_12) 4 c_14) 13 v_237) 14 v_239) 15 v_241) 16 v_243) 17 v_245) 18 v_247) 19 v_249) 2 v_251) h252) (
k236 .normal (upd (upd (upd (upd (upd (upd (upd (upd (upd (upd (upd (upd (upd (upd (upd (enterT [l_a0]) 2 v_0) 8 v_2) 9 v_4) 10 v_6) 3 f_8) 11 v_10) 12 v_12) 4 c_14) 13 v_237) 14 v_239) 15 v_241) 16 v_243) 17 v_245) 18 v_247) 19 v_249) h250)
theorem E_precentorlaw10_ConfigGrows (call : FuncId → List AVal → Heap → Res AVal) (fuel : Nat) (l_a0 : AVal) (h : Heap) : bodyR Try.prog call fuel Try.f4 [l_a0] h = S_precentorlaw10_ConfigGrows Try.prog call fuel l_a0 h := by kernel_rfl
theorem R_precentorlaw10_ConfigGrows {X : XTab} (l_a0 : AVal) {h : Heap} {Q : AVal → Heap → Prop} (hx : X F_precentorlaw10_ConfigGrows [l_a0] = none) (q : Tells (fun m => S_precentorlaw10_ConfigGrows Try.prog (acallX Try.prog X m) m l_a0 h) Q) :
    Tells (fun m => acallX Try.prog X m F_precentorlaw10_ConfigGrows [l_a0] h) Q :=
  Tells.later (q.le fun m => (E_precentorlaw10_ConfigGrows (acallX Try.prog X m) m l_a0 h) ▸ acallX_le Try.func4 hx m h)

/-! ### precentor/precentorlaw10.ConfigFirst -/
def J_precentorlaw10_ConfigFirst_2 (P : Program) (call : FuncId → List AVal → Heap → Res AVal) (fuel : Nat) (k : Kn (AVal)) (t : T) (h : Heap) : Res (AVal) :=
arb (.of (ldn 6 h (t 8)) h) call fun v_64 h65 =>
arb (newR [.nils, (.int .i64 0), (.int .i64 0), (.int .i64 0), (.int .i64 0), (.int .i64 0)] h65) call fun d_66 h67 =>
arb (stR 6 h67 d_66 v_64) call fun v_68 h69 =>
arbV (bslR 1 [] 0 h69 []) fun v_70 h71 =>
obv (.of (fadR 0 (t 8)) h71) fun v_72 =>
obv (.of (ld1 (killIf true h71 h69.next) v_72) (killIf true h71 h69.next)) fun v_74 => ifb true <|
arbE (appR 1 8 h71 v_70 v_74) call fun v_76 h77 => lt h77 fun g77 => ifb (true && true) <|
obv (.of (fadR 0 (t 8)) g77) fun v_78 =>
obv (.of (ld1 (killIf true g77 h69.next) v_78) (killIf true g77 h69.next)) fun v_80 => ifb (isV v_80 (arVal (.of (ld1 (killIf true h71 h69.next) v_78) (killIf true h71 h69.next))) && true) <|
obv (.of (lenL v_80) g77) fun v_82 =>
obv (.of (aBin P .add 3 (.tmp 75) (.const (.int .i64 1)) v_82 (.int .i64 1)) g77) fun v_84 =>
arbV (bslR 1 [(.int .i64 0)] 1 g77 [(0, 1, v_84)]) fun v_86 h87 =>
arbE (appR 1 8 h87 v_76 v_86) call fun v_88 h89 => lt h89 fun g89 => ifb (true && true) <|
obv (.of (fadR 0 d_66) g89) fun v_90 =>
arbE (stR 1 g89 v_90 v_88) call fun v_92 h93 => lt h93 fun g93 => ifb (true && true) <|
arb (.call F_precentorlaw10_known [] g93) call fun v_94 h95 =>
arb (.val v_94 h95) call fun v_96 h97 =>
gd (wantB v_96 true) (fun c => arb (.of (ldn 6 h97 (t 8)) h97) call c) h97 fun v_98 h99 =>
gd (wantB v_96 true) (fun c => arb (.call F_config_Check [v_98] h99) call c) h99 fun v_100 h101 =>
gd (wantB v_96 true) (fun c => arb (.val (t 13) h101) call c) h101 fun v_102 h103 =>
gd (wantB v_96 true) (fun c => arb (.of (aBin P .eql 33 (.tmp 83) (.tmp 84) v_100 v_102) h103) call c) h103 fun v_104 h105 =>
arb (pkR v_96 v_104 (.bool false) h105) call fun v_106 h107 =>
arb (.val v_106 h107) call fun v_108 h109 =>
gd (wantB v_108 true) (fun c => arb (.of (ldn 6 h109 d_66) h109) call c) h109 fun v_110 h111 =>
gd (wantB v_108 true) (fun c => arb (.call F_config_Check [v_110] h111) call c) h111 fun v_112 h113 =>
gd (wantB v_108 true) (fun c => arb (.of (aBin P .eql 33 (.tmp 89) (.const (.int .i64 3)) v_112 (.int .i64 3)) h113) call c) h113 fun v_114 h115 =>
arb (pkR v_108 v_114 (.bool false) h115) call fun v_116 h117 =>
arb (.val v_116 h117) call fun v_118 h119 =>
gd (wantB v_118 true) (fun c => arb (.of (ldn 6 h119 (t 8)) h119) call c) h119 fun v_120 h121 =>
gd (wantB v_118 true) (fun c => arb (.call F_config_Brokers [v_120] h121) call c) h121 fun v_122 h123 =>
gd (wantB v_118 true) (fun c => arb (.of (aBin P .gtr 3 (.tmp 94) (.const (.int .i64 0)) v_122 (.int .i64 0)) h123) call c) h123 fun v_124 h125 =>
gd (wantB v_118 true) (fun c => arb (.val (t 13) h125) call c) h125 fun v_126 h127 =>
gd (wantB v_118 true) (fun c => arb (.of (aBin P .eql 33 (.tmp 96) (.const (.int .i64 0)) v_126 (.int .i64 0)) h127) call c) h127 fun v_128 h129 =>
gd (wantB v_118 true) (fun c => arb (.of (aBin P .eql 4 (.tmp 95) (.tmp 97) v_124 v_128) h129) call c) h129 fun v_130 h131 =>
arb (pkR v_118 v_130 (.bool false) h131) call fun v_132 h133 =>
arb (.val v_132 h133) call fun v_134 h135 =>
k .ret (upd (upd (upd (upd (upd (upd (upd (upd (upd (upd (upd (upd (upd (upd (upd (upd (upd (upd (upd (upd (upd (upd (upd (upd (upd (upd (upd (upd (upd (upd (upd (upd (upd (upd t 68 v_64) 14 d_66) 69 v_70) 70 v_72) 71 v_74) 72 v_76) 73 v_78) 74 v_80) 75 v_82) 76 v_84) 77 v_86) 78 v_88) 79 v_90) 80 v_94) 81 v_96) 82 v_98) 83 v_100) 84 v_102) 85 v_104) 86 v_106) 87 v_108) 88 v_110) 89 v_112) 90 v_114) 91 v_116) 92 v_118) 93 v_120) 94 v_122) 95 v_124) 96 v_126) 97 v_128) 98 v_130) 99 v_132) 6 v_134) h135

def J_precentorlaw10_ConfigFirst_1 (P : Program) (call : FuncId → List AVal → Heap → Res AVal) (fuel : Nat) (k : Kn (AVal)) (t : T) (h : Heap) : Res (AVal) :=
arb (.val (.int .i64 0) h) call fun want_62 h63 =>
lt (sqK (J_precentorlaw10_ConfigFirst_2 P call fuel k) k) fun k136 =>
arb (.val (t 12) h63) call fun v_137 h138 =>
arb (.val (t 11) h138) call fun v_139 h140 =>
arb (.of (aBin P .lss 3 (.tmp 58) (.tmp 59) v_137 v_139) h140) call fun v_141 h142 =>
arb (.val v_141 h142) call fun v_143 h144 =>
gd (wantB v_143 false) (fun c => arb (.val (t 12) h144) call c) h144 fun v_145 h146 =>
gd (wantB v_143 false) (fun c => arb (.val (t 10) h146) call c) h146 fun v_147 h148 =>
gd (wantB v_143 false) (fun c => arb (.of (ixpR 5 1 (t 9) v_147) h148) call c) h148 fun v_149 h150 =>
gd (wantB v_143 false) (fun c => arb (.of (ld1 h150 v_149) h150) call c) h150 fun v_151 h152 =>
gd (wantB v_143 false) (fun c => arb (.of (aBin P .gtr 3 (.tmp 62) (.tmp 65) v_145 v_151) h152) call c) h152 fun v_153 h154 =>
arb (pkR v_143 (.bool true) v_153 h154) call fun v_155 h156 =>
cb v_155 (
arb (.val (.int .i64 1) h156) call fun want_157 h158 =>
k136 .normal (upd (upd (upd (upd (upd (upd (upd (upd (upd (upd (upd (upd t 13 want_62) 58 v_137) 59 v_139) 60 v_141) 61 v_143) 62 v_145) 63 v_147) 64 v_149) 65 v_151) 66 v_153) 67 v_155) 13 want_157) h158) (
k136 .normal (upd (upd (upd (upd (upd (upd (upd (upd (upd (upd (upd t 13 want_62) 58 v_137) 59 v_139) 60 v_141) 61 v_143) 62 v_145) 63 v_147) 64 v_149) 65 v_151) 66 v_153) 67 v_155) h156)

def J_precentorlaw10_ConfigFirst_0 (P : Program) (call : FuncId → List AVal → Heap → Res AVal) (fuel : Nat) (k : Kn (AVal)) (t : T) (h : Heap) : Res (AVal) :=
obv (.val (t 11) h) fun v_32 =>
obv (.val (t 10) h) fun v_34 =>
obv (.of (ixpR 5 1 (t 9) v_34) h) fun v_36 =>
obv (.of (ld1 h v_36) h) fun v_38 => ifb true <|
obv (.val (t 11) h) fun v_40 =>
obv (.of (aBin P .sub 3 (.tmp 29) (.const (.int .i64 1)) v_40 (.int .i64 1)) h) fun v_42 =>
obv (.val (t 10) h) fun v_44 =>
obv (.of (ixpR 5 1 (t 9) v_44) h) fun v_46 =>
obv (.of (ld1 h v_46) h) fun v_48 => ifb true <|
obv (.of (aBin P .add 3 (.tmp 33) (.const (.int .i64 1)) v_48 (.int .i64 1)) h) fun v_50 =>
obv (.of (bldR [(.int .i64 0), (.int .i64 0), (.int .i64 0), (.int .i64 0)] [(0, 1, v_32), (1, 1, v_38), (2, 1, v_42), (3, 1, v_50)]) h) fun v_52 =>
obv (.val (t 2) h) fun v_54 =>
arbE (.call F_precentorhand_Pick [v_54, (.int .i64 4)] h) call fun v_56 h57 => lt h57 fun g57 => ifb (true && (isV v_48 (arVal (.of (ld1 g57 v_46) g57)) && (isV v_38 (arVal (.of (ld1 g57 v_36) g57)) && true))) <|
obv (.of (ixa1 4 1 v_52 v_56) g57) fun v_58 =>
obv (.val v_58 g57) fun v_60 =>
lt (sqK (J_precentorlaw10_ConfigFirst_1 P call fuel k) k) fun k159 =>
arb (.val (t 10) g57) call fun v_160 h161 =>
lt (blkK 0 k159) fun k162 =>
arb (.of (aBin P .eql 3 (.tmp 39) (.const (.int .i64 0)) v_160 (.int .i64 0)) h161) call fun v_163 h164 =>
arb (.val v_163 h164) call fun v_165 h166 =>
cb v_165 (
arb (.val v_60 h166) call fun v_167 h168 =>
arb (.of (fadR 1 (t 8)) h168) call fun v_169 h170 =>
arb (stR 1 h170 v_169 v_167) call fun v_171 h172 =>
k162 .normal (upd (upd (upd (upd (upd (upd (upd (upd (upd (upd (upd (upd (upd (upd (upd (upd (upd (upd (upd (upd t 25 v_32) 26 v_34) 27 v_36) 28 v_38) 29 v_40) 30 v_42) 31 v_44) 32 v_46) 33 v_48) 34 v_50) 35 v_52) 36 v_54) 37 v_56) 38 v_58) 12 v_60) 39 v_160) 43 v_163) 42 v_165) 44 v_167) 45 v_169) h172) (
arb (.of (aBin P .eql 3 (.tmp 39) (.const (.int .i64 1)) v_160 (.int .i64 1)) h166) call fun v_173 h174 =>
arb (.val v_173 h174) call fun v_175 h176 =>
cb v_175 (
arb (.val v_60 h176) call fun v_177 h178 =>
arb (.of (fadR 2 (t 8)) h178) call fun v_179 h180 =>
arb (stR 1 h180 v_179 v_177) call fun v_181 h182 =>
k162 .normal (upd (upd (upd (upd (upd (upd (upd (upd (upd (upd (upd (upd (upd (upd (upd (upd (upd (upd (upd (upd (upd (upd t 25 v_32) 26 v_34) 27 v_36) 28 v_38) 29 v_40) 30 v_42) 31 v_44) 32 v_46) 33 v_48) 34 v_50) 35 v_52) 36 v_54) 37 v_56) 38 v_58) 12 v_60) 39 v_160) 43 v_163) 42 v_165) 47 v_173) 46 v_175) 48 v_177) 49 v_179) h182) (
arb (.of (aBin P .eql 3 (.tmp 39) (.const (.int .i64 2)) v_160 (.int .i64 2)) h176) call fun v_183 h184 =>
arb (.val v_183 h184) call fun v_185 h186 =>
cb v_185 (
arb (.val v_60 h186) call fun v_187 h188 =>
arb (.of (fadR 3 (t 8)) h188) call fun v_189 h190 =>
arb (stR 1 h190 v_189 v_187) call fun v_191 h192 =>
k162 .normal (upd (upd (upd (upd (upd (upd (upd (upd (upd (upd (upd (upd (upd (upd (upd (upd (upd (upd (upd (upd (upd (upd (upd (upd t 25 v_32) 26 v_34) 27 v_36) 28 v_38) 29 v_40) 30 v_42) 31 v_44) 32 v_46) 33 v_48) 34 v_50) 35 v_52) 36 v_54) 37 v_56) 38 v_58) 12 v_60) 39 v_160) 43 v_163) 42 v_165) 47 v_173) 46 v_175) 51 v_183) 50 v_185) 52 v_187) 53 v_189) h192) (
arb (.of (aBin P .eql 3 (.tmp 39) (.const (.int .i64 3)) v_160 (.int .i64 3)) h186) call fun v_193 h194 =>
arb (.val v_193 h194) call fun v_195 h196 =>
cb v_195 (
arb (.val v_60 h196) call fun v_197 h198 =>
arb (.of (fadR 4 (t 8)) h198) call fun v_199 h200 =>
arb (stR 1 h200 v_199 v_197) call fun v_201 h202 =>
k162 .normal (upd (upd (upd (upd (upd (upd (upd (upd (upd (upd (upd (upd (upd (upd (upd (upd (upd (upd (upd (upd (upd (upd (upd (upd (upd (upd t 25 v_32) 26 v_34) 27 v_36) 28 v_38) 29 v_40) 30 v_42) 31 v_44) 32 v_46) 33 v_48) 34 v_50) 35 v_52) 36 v_54) 37 v_56) 38 v_58) 12 v_60) 39 v_160) 43 v_163) 42 v_165) 47 v_173) 46 v_175) 51 v_183) 50 v_185) 55 v_193) 54 v_195) 56 v_197) 57 v_199) h202) (
arb (.val v_60 h196) call fun v_203 h204 =>
arb (.of (fadR 5 (t 8)) h204) call fun v_205 h206 =>
arb (stR 1 h206 v_205 v_203) call fun v_207 h208 =>
k162 .normal (upd (upd (upd (upd (upd (upd (upd (upd (upd (upd (upd (upd (upd (upd (upd (upd (upd (upd (upd (upd (upd (upd (upd (upd (upd (upd t 25 v_32) 26 v_34) 27 v_36) 28 v_38) 29 v_40) 30 v_42) 31 v_44) 32 v_46) 33 v_48) 34 v_50) 35 v_52) 36 v_54) 37 v_56) 38 v_58) 12 v_60) 39 v_160) 43 v_163) 42 v_165) 47 v_173) 46 v_175) 51 v_183) 50 v_185) 55 v_193) 54 v_195) 40 v_203) 41 v_205) h208))))

def S_precentorlaw10_ConfigFirst (P : Program) (call : FuncId → List AVal → Heap → Res AVal) (fuel : Nat) (l_a0 which_a1 n_a2 : AVal) (h : Heap) : Res AVal :=
lt (retK P [.tmp 6]) fun k =>
arb (.val (.bool false) h) call fun v_0 h1 =>
arb (.val l_a0 h1) call fun v_2 h3 =>
arb (.of (bldR [.nils, (.int .i64 0)] [(0, 1, v_2)]) h3) call fun v_4 h5 =>
arb (boxR v_4 h5) call fun v_6 h7 =>
arb (.val v_6 h7) call fun f_8 h9 =>
arb (.val f_8 h9) call fun v_10 h11 =>
arb (.call F_precentorhand_Feed_Config [v_10, (.int .i64 8)] h11) call fun v_12 h13 =>
arb (newR [.nils, (.int .i64 0), (.int .i64 0), (.int .i64 0), (.int .i64 0), (.int .i64 0)] h13) call fun c_14 h15 =>
arb (stR 6 h15 c_14 v_12) call fun v_16 h17 =>
arb (.of (bldR [(.int .i64 0), (.int .i64 0), (.int .i64 0), (.int .i64 0), (.int .i64 0)] [(0, 1, (.int .i64 8)), (1, 1, (.int .i64 8)), (2, 1, (.int .i64 8)), (3, 1, (.int .i64 4)), (4, 1, (.int .i64 4611686018427387904))]) h17) call fun v_18 h19 =>
arb (newR [(.int .i64 0), (.int .i64 0), (.int .i64 0), (.int .i64 0), (.int .i64 0)] h19) call fun most_20 h21 =>
arb (stR 5 h21 most_20 v_18) call fun v_22 h23 =>
arb (.val which_a1 h23) call fun v_24 h25 =>
arb (.call F_precentorhand_Pick [v_24, (.int .i64 5)] h25) call fun v_26 h27 =>
arb (.val v_26 h27) call fun k_28 h29 =>
arb (.val (.int .i64 1) h29) call fun least_30 h31 =>
lt (sqK (J_precentorlaw10_ConfigFirst_0 P call fuel k) k) fun k209 =>
arb (.val k_28 h31) call fun v_210 h211 =>
arb (.of (aBin P .eql 3 (.tmp 23) (.const (.int .i64 4)) v_210 (.int .i64 4)) h211) call fun v_212 h213 =>
cb v_212 (
arb (.val (.int .i64 0) h213) call fun least_214 h215 =>
k209 .normal (upd (upd (upd (upd (upd (upd (upd (upd (upd (upd (upd (upd (upd (upd (upd (upd (upd (enterT [l_a0, which_a1, n_a2]) 6 v_0) 15 v_2) 16 v_4) 17 v_6) 7 f_8) 18 v_10) 19 v_12) 8 c_14) 20 v_18) 9 most_20) 21 v_24) 22 v_26) 10 k_28) 11 least_30) 23 v_210) 24 v_212) 11 least_214) h215) (
k209 .normal (upd (upd (upd (upd (upd (upd (upd (upd (upd (upd (upd (upd (upd (upd (upd (upd (enterT [l_a0, which_a1, n_a2]) 6 v_0) 15 v_2) 16 v_4) 17 v_6) 7 f_8) 18 v_10) 19 v_12) 8 c_14) 20 v_18) 9 most_20) 21 v_24) 22 v_26) 10 k_28) 11 least_30) 23 v_210) 24 v_212) h213)
theorem E_precentorlaw10_ConfigFirst (call : FuncId → List AVal → Heap → Res AVal) (fuel : Nat) (l_a0 which_a1 n_a2 : AVal) (h : Heap) : bodyR Try.prog call fuel Try.f5 [l_a0, which_a1, n_a2] h = S_precentorlaw10_ConfigFirst Try.prog call fuel l_a0 which_a1 n_a2 h := by kernel_rfl
theorem R_precentorlaw10_ConfigFirst {X : XTab} (l_a0 which_a1 n_a2 : AVal) {h : Heap} {Q : AVal → Heap → Prop} (hx : X F_precentorlaw10_ConfigFirst [l_a0, which_a1, n_a2] = none) (q : Tells (fun m => S_precentorlaw10_ConfigFirst Try.prog (acallX Try.prog X m) m l_a0 which_a1 n_a2 h) Q) :
    Tells (fun m => acallX Try.prog X m F_precentorlaw10_ConfigFirst [l_a0, which_a1, n_a2] h) Q :=
  Tells.later (q.le fun m => (E_precentorlaw10_ConfigFirst (acallX Try.prog X m) m l_a0 which_a1 n_a2 h) ▸ acallX_le Try.func5 hx m h)

/-! ### precentor/precentorlaw10.known -/

def S_precentorlaw10_known (P : Program) (call : FuncId → List AVal → Heap → Res AVal) (fuel : Nat) (h : Heap) : Res AVal :=
lt (retK P [.tmp 0]) fun k =>
arb (.val (.bool false) h) call fun v_0 h1 =>
arb (.call F_precentorlaw10_ConfigKnown [] h1) call fun v_2 h3 =>
arb (.val v_2 h3) call fun v_4 h5 =>
k .ret (upd (upd (upd (enterT []) 0 v_0) 1 v_2) 0 v_4) h5
theorem E_precentorlaw10_known (call : FuncId → List AVal → Heap → Res AVal) (fuel : Nat) (h : Heap) : bodyR Try.prog call fuel Try.f9 [] h = S_precentorlaw10_known Try.prog call fuel  h := by kernel_rfl
theorem R_precentorlaw10_known {X : XTab} {h : Heap} {Q : AVal → Heap → Prop} (hx : X F_precentorlaw10_known [] = none) (q : Tells (fun m => S_precentorlaw10_known Try.prog (acallX Try.prog X m) m  h) Q) :
    Tells (fun m => acallX Try.prog X m F_precentorlaw10_known [] h) Q :=
  Tells.later (q.le fun m => (E_precentorlaw10_known (acallX Try.prog X m) m  h) ▸ acallX_le Try.func9 hx m h)


end Go.Proofs.Ythhfeoilnkmnkaa
