/-
  Functions of precentorlaw25 in the form of YtochkdifpgelmaaABS (printed by a program of ours, gen.lean).
-/
import Derived.Test.YtochkdifpgelmaaSIds
set_option linter.unusedVariables false
namespace Go.Proofs.Ytochkdifpgelmaa
open Go.Ab
/-! ### precentor/precentorlaw25.TraceTells -/
def J_precentorlaw25_TraceTells_0 (P : Program) (call : FuncId → List AVal → Heap → Res AVal) (fuel : Nat) (k : Kn (AVal)) (t : T) (h : Heap) : Res (AVal) :=
arb (.val (t 11) h) call fun v_14 h15 =>
arb (.call F_trace_Line [v_14] h15) call fun v_16 h17 =>
arb (.val v_16 h17) call fun v_18 h19 =>
arb (extR v_18 0 h19) call fun v_20 h21 =>
arb (extR v_18 1 h21) call fun v_22 h23 =>
arb (.val v_20 h23) call fun a_24 h25 =>
arb (.val v_22 h25) call fun p_26 h27 =>
arb (.val (t 11) h27) call fun v_28 h29 =>
arb (.call F_precentorref23_Line [v_28] h29) call fun v_30 h31 =>
arb (.val v_30 h31) call fun v_32 h33 =>
arb (extR v_32 0 h33) call fun v_34 h35 =>
arb (extR v_32 1 h35) call fun v_36 h37 =>
arb (.val v_34 h37) call fun b_38 h39 =>
arb (.val v_36 h39) call fun q_40 h41 =>
arbE (.call F_precentorlaw25_known [] h41) call fun v_42 h43 => lt h43 fun g43 => ifb (true && true) <|
obv (.val v_42 g43) fun v_44 =>
gdr (wantB v_44 true) (fun c => obv (.val p_26 g43) fun v_46 =>
c true v_46 g43) g43 fun w48 v_46 h48 =>
gdr (wantB v_44 true) (fun c => obv (.val q_40 h48) fun v_49 =>
c true v_49 h48) h48 fun w51 v_49 h51 =>
gdr (wantB v_44 true) (fun c => obv (.of (aBin P .eql 4 (.tmp 59) (.tmp 60) v_46 v_49) h51) fun v_52 =>
c true v_52 h51) h51 fun w54 v_52 h54 =>
obv (pkR v_44 v_52 (.bool false) h54) fun v_55 =>
obv (.val v_55 h54) fun v_57 =>
gdr (wantB v_57 true) (fun c => obv (.val a_24 h54) fun v_59 =>
c true v_59 h54) h54 fun w61 v_59 h61 =>
gdr (wantB v_57 true) (fun c => obv (.val b_38 h61) fun v_62 =>
c true v_62 h61) h61 fun w64 v_62 h64 =>
gdr (wantB v_57 true) (fun c => arbE (.call F_precentorlaw25_same [v_59, v_62] h64) call fun v_65 h66 => lt h66 fun g66 => ifb (true && true) <|
c true v_65 g66) h64 fun w67 v_65 h67 =>
obv (pkR v_57 v_65 (.bool false) h67) fun v_68 =>
obv (.val v_68 h67) fun v_70 =>
gdr (wantB v_70 true) (fun c => obv (.val (t 11) h67) fun v_72 =>
c true v_72 h67) h67 fun w74 v_72 h74 =>
gdr (wantB v_70 true) (fun c => obv (.val (t 3) h74) fun v_75 =>
c true v_75 h74) h74 fun w77 v_75 h77 =>
gdr (wantB v_70 true) (fun c => arbE (.call F_trace_Heard [v_72, v_75] h77) call fun v_78 h79 => lt h79 fun g79 => ifb (true && true) <|
c true v_78 g79) h77 fun w80 v_78 h80 =>
gdr (wantB v_70 true) (fun c => obv (.val (t 11) h80) fun v_81 =>
c true v_81 h80) h80 fun w83 v_81 h83 =>
gdr (wantB v_70 true) (fun c => obv (.val (t 3) h83) fun v_84 =>
c true v_84 h83) h83 fun w86 v_84 h86 =>
gdr (wantB v_70 true) (fun c => arbE (.call F_precentorref23_Heard [v_81, v_84] h86) call fun v_87 h88 => lt h88 fun g88 => ifb (true && true) <|
c true v_87 g88) h86 fun w89 v_87 h89 =>
gdr (wantB v_70 true) (fun c => arbE (.call F_precentorlaw25_same [v_78, v_87] h89) call fun v_90 h91 => lt h91 fun g91 => ifb (true && true) <|
c true v_90 g91) h89 fun w92 v_90 h92 =>
obv (pkR v_70 v_90 (.bool false) h92) fun v_93 =>
obv (.val v_93 h92) fun v_95 =>
gdr (wantB v_95 true) (fun c => obv (.val (t 11) h92) fun v_97 =>
c true v_97 h92) h92 fun w99 v_97 h99 =>
gdr (wantB v_95 true) (fun c => arbE (.call F_trace_Once [v_97] h99) call fun v_100 h101 => lt h101 fun g101 => ifb (true && true) <|
c true v_100 g101) h99 fun w102 v_100 h102 =>
gdr (wantB v_95 true) (fun c => obv (.val (t 11) h102) fun v_103 =>
c true v_103 h102) h102 fun w105 v_103 h105 =>
gdr (wantB v_95 true) (fun c => arbE (.call F_precentorref23_Once [v_103] h105) call fun v_106 h107 => lt h107 fun g107 => ifb (true && true) <|
c true v_106 g107) h105 fun w108 v_106 h108 =>
gdr (wantB v_95 true) (fun c => obv (.of (aBin P .eql 4 (.tmp 79) (.tmp 81) v_100 v_106) h108) fun v_109 =>
c true v_109 h108) h108 fun w111 v_109 h111 =>
obv (pkR v_95 v_109 (.bool false) h111) fun v_112 =>
obv (.val v_112 h111) fun v_114 =>
gdr (wantB v_114 true) (fun c => obv (.val (t 11) h111) fun v_116 =>
c true v_116 h111) h111 fun w118 v_116 h118 =>
gdr (wantB v_114 true) (fun c => arbE (.call F_trace_Agree [v_116] h118) call fun v_119 h120 => lt h120 fun g120 => ifb (true && true) <|
c true v_119 g120) h118 fun w121 v_119 h121 =>
gdr (wantB v_114 true) (fun c => obv (.val (t 11) h121) fun v_122 =>
c true v_122 h121) h121 fun w124 v_122 h124 =>
gdr (wantB v_114 true) (fun c => arbE (.call F_precentorref23_Agree [v_122] h124) call fun v_125 h126 => lt h126 fun g126 => ifb (true && true) <|
c true v_125 g126) h124 fun w127 v_125 h127 =>
gdr (wantB v_114 true) (fun c => obv (.of (aBin P .eql 4 (.tmp 86) (.tmp 88) v_119 v_125) h127) fun v_128 =>
c true v_128 h127) h127 fun w130 v_128 h130 =>
obv (pkR v_114 v_128 (.bool false) h130) fun v_131 =>
obv (.val v_131 h130) fun v_133 =>
gdr (wantB v_133 true) (fun c => obv (.val (t 11) h130) fun v_135 =>
c true v_135 h130) h130 fun w137 v_135 h137 =>
gdr (wantB v_133 true) (fun c => obv (.of (ldn 2 h137 (t 9)) h137) fun v_138 => ifb true <|
c true v_138 h137) h137 fun w140 v_138 h140 =>
gdr (wantB v_133 true) (fun c => arbE (.call F_trace_Causes [v_135, v_138] h140) call fun v_141 h142 => lt h142 fun g142 => ifb (true && true) <|
c true v_141 g142) h140 fun w143 v_141 h143 =>
gdr (wantB v_133 true) (fun c => obv (.val (t 11) h143) fun v_144 =>
c true v_144 h143) h143 fun w146 v_144 h146 =>
gdr (wantB v_133 true) (fun c => obv (.of (ldn 2 h146 (t 9)) h146) fun v_147 => ifb ((!w143 || isV v_147 (arVal (.of (ldn 2 h140 (t 9)) h140))) && true) <|
c true v_147 h146) h146 fun w149 v_147 h149 =>
gdr (wantB v_133 true) (fun c => arbE (.call F_precentorref23_Causes [v_144, v_147] h149) call fun v_150 h151 => lt h151 fun g151 => ifb (true && true) <|
c true v_150 g151) h149 fun w152 v_150 h152 =>
gdr (wantB v_133 true) (fun c => arbE (.call F_precentorlaw25_same [v_141, v_150] h152) call fun v_153 h154 => lt h154 fun g154 => ifb (true && true) <|
c true v_153 g154) h152 fun w155 v_153 h155 =>
obv (pkR v_133 v_153 (.bool false) h155) fun v_156 =>
obv (.val v_156 h155) fun v_158 =>
gdr (wantB v_158 true) (fun c => obv (.val (t 11) h155) fun v_160 =>
c true v_160 h155) h155 fun w162 v_160 h162 =>
gdr (wantB v_158 true) (fun c => arbE (.call F_trace_Causal [v_160] h162) call fun v_163 h164 => lt h164 fun g164 => ifb (true && true) <|
c true v_163 g164) h162 fun w165 v_163 h165 =>
gdr (wantB v_158 true) (fun c => obv (.val (t 11) h165) fun v_166 =>
c true v_166 h165) h165 fun w168 v_166 h168 =>
gdr (wantB v_158 true) (fun c => arbE (.call F_precentorref23_Causal [v_166] h168) call fun v_169 h170 => lt h170 fun g170 => ifb (true && true) <|
c true v_169 g170) h168 fun w171 v_169 h171 =>
gdr (wantB v_158 true) (fun c => obv (.of (aBin P .eql 4 (.tmp 102) (.tmp 104) v_163 v_169) h171) fun v_172 =>
c true v_172 h171) h171 fun w174 v_172 h174 =>
obv (pkR v_158 v_172 (.bool false) h174) fun v_175 =>
obv (.val v_175 h174) fun v_177 =>
k .ret (upd (upd (upd (upd (upd (upd (upd (upd (upd (upd (upd (upd (upd (upd (upd (upd (upd (upd (upd (upd (upd (upd (upd (upd (upd (upd (upd (upd (upd (upd (upd (upd (upd (upd (upd (upd (upd (upd (upd (upd (upd (upd (upd (upd (upd (upd (upd (upd (upd (upd (upd (upd (upd (upd (upd (upd (upd (upd (upd (upd (upd (upd (upd (upd (upd t 48 v_14) 49 v_16) 47 v_18) 50 v_20) 51 v_22) 13 a_24) 14 p_26) 53 v_28) 54 v_30) 52 v_32) 55 v_34) 56 v_36) 15 b_38) 16 q_40) 57 v_42) 58 v_44) 59 v_46) 60 v_49) 61 v_52) 62 v_55) 63 v_57) 64 v_59) 65 v_62) 66 v_65) 67 v_68) 68 v_70) 69 v_72) 70 v_75) 71 v_78) 72 v_81) 73 v_84) 74 v_87) 75 v_90) 76 v_93) 77 v_95) 78 v_97) 79 v_100) 80 v_103) 81 v_106) 82 v_109) 83 v_112) 84 v_114) 85 v_116) 86 v_119) 87 v_122) 88 v_125) 89 v_128) 90 v_131) 91 v_133) 92 v_135) 93 v_138) 94 v_141) 95 v_144) 96 v_147) 97 v_150) 98 v_153) 99 v_156) 100 v_158) 101 v_160) 102 v_163) 103 v_166) 104 v_169) 105 v_172) 106 v_175) 10 v_177) h174

def S_precentorlaw25_TraceTells (P : Program) (call : FuncId → List AVal → Heap → Res AVal) (fuel : Nat) (l_a0 raw_a1 odd_a2 who_a3 x_a4 : AVal) (h : Heap) : Res AVal :=
lt (retK P [.tmp 10]) fun k =>
arb (boxR x_a4 h) call fun x_0 h1 =>
arb (.val (.bool false) h1) call fun v_2 h3 =>
arb (.val l_a0 h3) call fun v_4 h5 =>
arb (.val raw_a1 h5) call fun v_6 h7 =>
arb (.val odd_a2 h7) call fun v_8 h9 =>
arb (.call F_precentorlaw25_marks [v_4, v_6, v_8] h9) call fun v_10 h11 =>
arb (.val v_10 h11) call fun m_12 h13 =>
lt (sqK (J_precentorlaw25_TraceTells_0 P call fuel k) k) fun k179 =>
arb (.val m_12 h13) call fun v_180 h181 =>
arb (.of (lenL v_180) h181) call fun v_182 h183 =>
arb (.of (aBin P .gtr 3 (.tmp 22) (.const (.int .i64 0)) v_182 (.int .i64 0)) h183) call fun v_184 h185 =>
cb v_184 (
arb (.val m_12 h185) call fun v_186 h187 =>
arb (.val who_a3 h187) call fun v_188 h189 =>
arb (.val m_12 h189) call fun v_190 h191 =>
arb (.of (lenL v_190) h191) call fun v_192 h193 =>
arb (.call F_precentorhand_Pick [v_188, v_192] h193) call fun v_194 h195 =>
arb (.of (ixsR 4 v_186 v_194) h195) call fun v_196 h197 =>
arb (.of (fadR 1 v_196) h197) call fun v_198 h199 =>
arb (.of (ld1 h199 v_198) h199) call fun v_200 h201 =>
arb (.val v_200 h201) call fun who_202 h203 =>
arb (.val odd_a2 h203) call fun v_204 h205 =>
arb (.of (aUn P .not v_204) h205) call fun v_206 h207 =>
cb v_206 (
arb (.val m_12 h207) call fun v_208 h209 =>
arb (.of (fadR 1 x_0) h209) call fun v_210 h211 =>
arb (.of (ld1 h211 v_210) h211) call fun v_212 h213 =>
arb (.val m_12 h213) call fun v_214 h215 =>
arb (.of (lenL v_214) h215) call fun v_216 h217 =>
arb (.call F_precentorhand_Pick [v_212, v_216] h217) call fun v_218 h219 =>
arb (.of (ixsR 4 v_208 v_218) h219) call fun v_220 h221 =>
arb (.of (ldn 4 h221 v_220) h221) call fun v_222 h223 =>
arb (newR [(.bool false), (.int .i64 0), (.int .i64 0), (.int .i64 0)] h223) call fun k_224 h225 =>
arb (stR 4 h225 k_224 v_222) call fun v_226 h227 =>
arb (.of (fadR 1 k_224) h227) call fun v_228 h229 =>
arb (.of (ld1 h229 v_228) h229) call fun v_230 h231 =>
arb (.of (fadR 3 k_224) h231) call fun v_232 h233 =>
arb (.of (ld1 h233 v_232) h233) call fun v_234 h235 =>
arb (.of (bldR [(.int .i64 0), (.int .i64 0)] [(0, 1, v_230), (1, 1, v_234)]) h235) call fun v_236 h237 =>
arb (stR 2 h237 x_0 v_236) call fun v_238 h239 =>
k179 .normal (upd (upd (upd (upd (upd (upd (upd (upd (upd (upd (upd (upd (upd (upd (upd (upd (upd (upd (upd (upd (upd (upd (upd (upd (upd (upd (upd (upd (upd (upd (upd (upd (upd (upd (upd (enterT [l_a0, raw_a1, odd_a2, who_a3, x_a4]) 9 x_0) 10 v_2) 17 v_4) 18 v_6) 19 v_8) 20 v_10) 11 m_12) 21 v_180) 22 v_182) 23 v_184) 24 v_186) 25 v_188) 26 v_190) 27 v_192) 28 v_194) 29 v_196) 30 v_198) 31 v_200) 3 who_202) 32 v_204) 33 v_206) 34 v_208) 35 v_210) 36 v_212) 37 v_214) 38 v_216) 39 v_218) 40 v_220) 41 v_222) 12 k_224) 42 v_228) 43 v_230) 44 v_232) 45 v_234) 46 v_236) h239) (
k179 .normal (upd (upd (upd (upd (upd (upd (upd (upd (upd (upd (upd (upd (upd (upd (upd (upd (upd (upd (upd (upd (upd (enterT [l_a0, raw_a1, odd_a2, who_a3, x_a4]) 9 x_0) 10 v_2) 17 v_4) 18 v_6) 19 v_8) 20 v_10) 11 m_12) 21 v_180) 22 v_182) 23 v_184) 24 v_186) 25 v_188) 26 v_190) 27 v_192) 28 v_194) 29 v_196) 30 v_198) 31 v_200) 3 who_202) 32 v_204) 33 v_206) h207)) (
k179 .normal (upd (upd (upd (upd (upd (upd (upd (upd (upd (upd (enterT [l_a0, raw_a1, odd_a2, who_a3, x_a4]) 9 x_0) 10 v_2) 17 v_4) 18 v_6) 19 v_8) 20 v_10) 11 m_12) 21 v_180) 22 v_182) 23 v_184) h185)
theorem E_precentorlaw25_TraceTells (call : FuncId → List AVal → Heap → Res AVal) (fuel : Nat) (l_a0 raw_a1 odd_a2 who_a3 x_a4 : AVal) (h : Heap) : bodyR Try.prog call fuel Try.f4 [l_a0, raw_a1, odd_a2, who_a3, x_a4] h = S_precentorlaw25_TraceTells Try.prog call fuel l_a0 raw_a1 odd_a2 who_a3 x_a4 h := by kernel_rfl
theorem R_precentorlaw25_TraceTells {X : XTab} (l_a0 raw_a1 odd_a2 who_a3 x_a4 : AVal) {h : Heap} {Q : AVal → Heap → Prop} (hx : X F_precentorlaw25_TraceTells [l_a0, raw_a1, odd_a2, who_a3, x_a4] = none) (q : Tells (fun m => S_precentorlaw25_TraceTells Try.prog (acallX Try.prog X m) m l_a0 raw_a1 odd_a2 who_a3 x_a4 h) Q) :
    Tells (fun m => acallX Try.prog X m F_precentorlaw25_TraceTells [l_a0, raw_a1, odd_a2, who_a3, x_a4] h) Q :=
  Tells.later (q.le fun m => (E_precentorlaw25_TraceTells (acallX Try.prog X m) m l_a0 raw_a1 odd_a2 who_a3 x_a4 h) ▸ acallX_le Try.func4 hx m h)

/-! ### precentor/precentorlaw25.TraceLine -/
def J_precentorlaw25_TraceLine_4 (P : Program) (call : FuncId → List AVal → Heap → Res AVal) (fuel : Nat) (k : Kn (AVal)) (t : T) (h : Heap) : Res (AVal) :=
arb (.val (t 5) h) call fun v_28 h29 =>
arb (.val (t 17) h29) call fun v_30 h31 =>
arb (.of (aBin P .neq 4 (.tmp 225) (.tmp 226) v_28 v_30) h31) call fun v_32 h33 =>
arb (.val v_32 h33) call fun v_34 h35 =>
gd (wantB v_34 true) (fun c => arb (.val (t 5) h35) call c) h35 fun v_36 h37 =>
gd (wantB v_34 true) (fun c => arb (.of (aUn P .not v_36) h37) call c) h37 fun v_38 h39 =>
gd (wantB v_34 true) (fun c => arb (.val v_38 h39) call c) h39 fun v_40 h41 =>
gd (wantB v_40 false) (fun c => arb (.val (t 4) h41) call c) h41 fun v_42 h43 =>
gd (wantB v_40 false) (fun c => arb (.of (lenL v_42) h43) call c) h43 fun v_44 h45 =>
gd (wantB v_40 false) (fun c => arb (.val (t 6) h45) call c) h45 fun v_46 h47 =>
gd (wantB v_40 false) (fun c => arb (.of (lenL v_46) h47) call c) h47 fun v_48 h49 =>
gd (wantB v_40 false) (fun c => arb (.of (aBin P .eql 3 (.tmp 233) (.tmp 235) v_44 v_48) h49) call c) h49 fun v_50 h51 =>
gd (wantB v_34 true) (fun c => arb (pkR v_40 (.bool true) v_50 h51) call c) h51 fun v_52 h53 =>
arb (pkR v_34 v_52 (.bool false) h53) call fun v_54 h55 =>
arb (.val v_54 h55) call fun v_56 h57 =>
k .ret (upd (upd (upd (upd (upd (upd (upd (upd (upd (upd (upd (upd (upd (upd (upd t 225 v_28) 226 v_30) 227 v_32) 228 v_34) 229 v_36) 230 v_38) 231 v_40) 232 v_42) 233 v_44) 234 v_46) 235 v_48) 236 v_50) 237 v_52) 238 v_54) 2 v_56) h57

def J_precentorlaw25_TraceLine_7 (P : Program) (call : FuncId → List AVal → Heap → Res AVal) (fuel : Nat) (k : Kn (Ex × T)) (t : T) (h : Heap) : Res (Ex × T) :=
arb (.val (t 18) h) call fun v_62 h63 =>
arb (.of (aBin P .add 3 (.tmp 177) (.const (.int .i64 1)) v_62 (.int .i64 1)) h63) call fun v_64 h65 =>
arb (.val v_64 h65) call fun i_66 h67 =>
k .normal (upd (upd (upd t 177 v_62) 178 v_64) 18 i_66) h67

def J_precentorlaw25_TraceLine_10 (P : Program) (call : FuncId → List AVal → Heap → Res AVal) (fuel : Nat) (k : Kn (Ex × T)) (t : T) (h : Heap) : Res (Ex × T) :=
arb (.val (t 19) h) call fun v_91 h92 =>
arb (.of (aBin P .add 3 (.tmp 194) (.const (.int .i64 1)) v_91 (.int .i64 1)) h92) call fun v_93 h94 =>
arb (.val v_93 h94) call fun j_95 h96 =>
k .normal (upd (upd (upd t 194 v_91) 195 v_93) 19 j_95) h96

def J_precentorlaw25_TraceLine_9 (P : Program) (call : FuncId → List AVal → Heap → Res AVal) (fuel : Nat) (k : Kn (Ex × T)) (t : T) (h : Heap) : Res (Ex × T) :=
lt (sqK (J_precentorlaw25_TraceLine_10 P call fuel k) k) fun k97 =>
lt (blkK 17 k97) fun k98 =>
obv (.val (t 4) h) fun v_99 =>
obv (.val (t 6) h) fun v_101 =>
obv (.val (t 18) h) fun v_103 =>
obv (.of (ixsR 2 v_101 v_103) h) fun v_105 =>
obv (.of (ldn 2 h v_105) h) fun v_107 => ifb true <|
arbE (.call F_precentorlaw25_at [v_99, v_107] h) call fun v_109 h110 => lt h110 fun g110 => ifb (true && true) <|
obv (.of (aBin P .lss 3 (.tmp 201) (.const (.int .i64 0)) v_109 (.int .i64 0)) g110) fun v_111 =>
obv (.val v_111 g110) fun v_113 =>
gdr (wantB v_113 false) (fun c => obv (.val (t 18) g110) fun v_115 =>
c true v_115 g110) g110 fun w117 v_115 h117 =>
gdr (wantB v_113 false) (fun c => obv (.val (t 19) h117) fun v_118 =>
c true v_118 h117) h117 fun w120 v_118 h120 =>
gdr (wantB v_113 false) (fun c => obv (.of (ixpR 30 30 (t 9) v_115) h120) fun v_121 =>
c true v_121 h120) h120 fun w123 v_121 h123 =>
gdr (wantB v_113 false) (fun c => obv (.of (ixpR 30 1 v_121 v_118) h123) fun v_124 =>
c true v_124 h123) h123 fun w126 v_124 h126 =>
gdr (wantB v_113 false) (fun c => obv (.of (ld1 h126 v_124) h126) fun v_127 => ifb true <|
c true v_127 h126) h126 fun w129 v_127 h129 =>
gdr (wantB v_113 false) (fun c => obv (.val v_127 h129) fun v_130 =>
c true v_130 h129) h129 fun w132 v_130 h132 =>
gdr (wantB v_130 true) (fun c => obv (.val (t 4) h132) fun v_133 =>
c true v_133 h132) h132 fun w135 v_133 h135 =>
gdr (wantB v_130 true) (fun c => obv (.val (t 6) h135) fun v_136 =>
c true v_136 h135) h135 fun w138 v_136 h138 =>
gdr (wantB v_130 true) (fun c => obv (.val (t 18) h138) fun v_139 =>
c true v_139 h138) h138 fun w141 v_139 h141 =>
gdr (wantB v_130 true) (fun c => obv (.of (ixsR 2 v_136 v_139) h141) fun v_142 =>
c true v_142 h141) h141 fun w144 v_142 h144 =>
gdr (wantB v_130 true) (fun c => obv (.of (ldn 2 h144 v_142) h144) fun v_145 => ifb true <|
c true v_145 h144) h144 fun w147 v_145 h147 =>
gdr (wantB v_130 true) (fun c => arbE (.call F_precentorlaw25_at [v_133, v_145] h147) call fun v_148 h149 => lt h149 fun g149 => ifb (true && true) <|
c true v_148 g149) h147 fun w150 v_148 h150 =>
gdr (wantB v_130 true) (fun c => obv (.val (t 4) h150) fun v_151 =>
c true v_151 h150) h150 fun w153 v_151 h153 =>
gdr (wantB v_130 true) (fun c => obv (.val (t 6) h153) fun v_154 =>
c true v_154 h153) h153 fun w156 v_154 h156 =>
gdr (wantB v_130 true) (fun c => obv (.val (t 19) h156) fun v_157 =>
c true v_157 h156) h156 fun w159 v_157 h159 =>
gdr (wantB v_130 true) (fun c => obv (.of (ixsR 2 v_154 v_157) h159) fun v_160 =>
c true v_160 h159) h159 fun w162 v_160 h162 =>
gdr (wantB v_130 true) (fun c => obv (.of (ldn 2 h162 v_160) h162) fun v_163 => ifb ((!w150 || isV v_163 (arVal (.of (ldn 2 h147 v_160) h147))) && true) <|
c true v_163 h162) h162 fun w165 v_163 h165 =>
gdr (wantB v_130 true) (fun c => arbE (.call F_precentorlaw25_at [v_151, v_163] h165) call fun v_166 h167 => lt h167 fun g167 => ifb (true && true) <|
c true v_166 g167) h165 fun w168 v_166 h168 =>
gdr (wantB v_130 true) (fun c => obv (.of (aBin P .geq 3 (.tmp 215) (.tmp 221) v_148 v_166) h168) fun v_169 =>
c true v_169 h168) h168 fun w171 v_169 h171 =>
gdr (wantB v_113 false) (fun c => obv (pkR v_130 v_169 (.bool false) h171) fun v_172 =>
c true v_172 h171) h171 fun w174 v_172 h174 =>
obv (pkR v_113 (.bool true) v_172 h174) fun v_175 =>
cb v_175 (
arb (.val (.bool false) h174) call fun v_177 h178 =>
k98 .ret (upd (upd (upd (upd (upd (upd (upd (upd (upd (upd (upd (upd (upd (upd (upd (upd (upd (upd (upd (upd (upd (upd (upd (upd (upd (upd (upd (upd (upd (upd t 196 v_99) 197 v_101) 198 v_103) 199 v_105) 200 v_107) 201 v_109) 202 v_111) 203 v_113) 204 v_115) 205 v_118) 206 v_121) 207 v_124) 208 v_127) 209 v_130) 210 v_133) 211 v_136) 212 v_139) 213 v_142) 214 v_145) 215 v_148) 216 v_151) 217 v_154) 218 v_157) 219 v_160) 220 v_163) 221 v_166) 222 v_169) 223 v_172) 224 v_175) 2 v_177) h178) (
k98 .normal (upd (upd (upd (upd (upd (upd (upd (upd (upd (upd (upd (upd (upd (upd (upd (upd (upd (upd (upd (upd (upd (upd (upd (upd (upd (upd (upd (upd (upd t 196 v_99) 197 v_101) 198 v_103) 199 v_105) 200 v_107) 201 v_109) 202 v_111) 203 v_113) 204 v_115) 205 v_118) 206 v_121) 207 v_124) 208 v_127) 209 v_130) 210 v_133) 211 v_136) 212 v_139) 213 v_142) 214 v_145) 215 v_148) 216 v_151) 217 v_154) 218 v_157) 219 v_160) 220 v_163) 221 v_166) 222 v_169) 223 v_172) 224 v_175) h174)

def L_precentorlaw25_TraceLine_8 (P : Program) (call : FuncId → List AVal → Heap → Res AVal) (fuel : Nat) (t : T) (h : Heap) : Res (Ex × T) :=
lt okK fun k =>
lt (sqK (J_precentorlaw25_TraceLine_9 P call fuel k) k) fun k179 =>
arb (.val (t 19) h) call fun v_180 h181 =>
arb (.val (t 6) h181) call fun v_182 h183 =>
arb (.of (lenL v_182) h183) call fun v_184 h185 =>
arb (.of (aBin P .lss 3 (.tmp 187) (.tmp 189) v_180 v_184) h185) call fun v_186 h187 =>
arb (.val v_186 h187) call fun v_188 h189 =>
gd (wantB v_188 true) (fun c => arb (.val (t 5) h189) call c) h189 fun v_190 h191 =>
arb (pkR v_188 v_190 (.bool false) h191) call fun v_192 h193 =>
cb v_192 (
k179 .normal (upd (upd (upd (upd (upd (upd (upd t 187 v_180) 188 v_182) 189 v_184) 190 v_186) 191 v_188) 192 v_190) 193 v_192) h193) (
k179 (.exit 16) (upd (upd (upd (upd (upd (upd (upd t 187 v_180) 188 v_182) 189 v_184) 190 v_186) 191 v_188) 192 v_190) 193 v_192) h193)

def J_precentorlaw25_TraceLine_6 (P : Program) (call : FuncId → List AVal → Heap → Res AVal) (fuel : Nat) (k : Kn (Ex × T)) (t : T) (h : Heap) : Res (Ex × T) :=
lt (sqK (J_precentorlaw25_TraceLine_7 P call fuel k) k) fun k68 =>
lt (blkK 15 k68) fun k69 =>
arb (.val (t 17) h) call fun v_70 h71 =>
arb (.val v_70 h71) call fun v_72 h73 =>
gd (wantB v_72 false) (fun c => arb (.val (t 18) h73) call c) h73 fun v_74 h75 =>
gd (wantB v_72 false) (fun c => arb (.val (t 18) h75) call c) h75 fun v_76 h77 =>
gd (wantB v_72 false) (fun c => arb (.of (ixpR 30 30 (t 9) v_74) h77) call c) h77 fun v_78 h79 =>
gd (wantB v_72 false) (fun c => arb (.of (ixpR 30 1 v_78 v_76) h79) call c) h79 fun v_80 h81 =>
gd (wantB v_72 false) (fun c => arb (.of (ld1 h81 v_80) h81) call c) h81 fun v_82 h83 =>
arb (pkR v_72 (.bool true) v_82 h83) call fun v_84 h85 =>
arb (.val v_84 h85) call fun ring_86 h87 =>
arb (.val (.int .i64 0) h87) call fun j_88 h89 =>
lt (blkK 16 k69) fun k90 =>
(loopN (L_precentorlaw25_TraceLine_8 P call fuel) fuel (upd (upd (upd (upd (upd (upd (upd (upd (upd (upd t 179 v_70) 180 v_72) 181 v_74) 182 v_76) 183 v_78) 184 v_80) 185 v_82) 186 v_84) 17 ring_86) 19 j_88) h89).bind (lpK k90)

def L_precentorlaw25_TraceLine_5 (P : Program) (call : FuncId → List AVal → Heap → Res AVal) (fuel : Nat) (t : T) (h : Heap) : Res (Ex × T) :=
lt okK fun k =>
lt (sqK (J_precentorlaw25_TraceLine_6 P call fuel k) k) fun k194 =>
arb (.val (t 18) h) call fun v_195 h196 =>
arb (.val (t 6) h196) call fun v_197 h198 =>
arb (.of (lenL v_197) h198) call fun v_199 h200 =>
arb (.of (aBin P .lss 3 (.tmp 173) (.tmp 175) v_195 v_199) h200) call fun v_201 h202 =>
cb v_201 (
k194 .normal (upd (upd (upd (upd t 173 v_195) 174 v_197) 175 v_199) 176 v_201) h202) (
k194 (.exit 14) (upd (upd (upd (upd t 173 v_195) 174 v_197) 175 v_199) 176 v_201) h202)

def J_precentorlaw25_TraceLine_3 (P : Program) (call : FuncId → List AVal → Heap → Res AVal) (fuel : Nat) (k : Kn (AVal)) (t : T) (h : Heap) : Res (AVal) :=
arb (.val (.bool false) h) call fun ring_26 h27 =>
lt (sqK (J_precentorlaw25_TraceLine_4 P call fuel k) k) fun k58 =>
arb (.val (.int .i64 0) h27) call fun i_59 h60 =>
lt (blkK 14 k58) fun k61 =>
(loopN (L_precentorlaw25_TraceLine_5 P call fuel) fuel (upd (upd t 17 ring_26) 18 i_59) h60).bind (lpK k61)

def J_precentorlaw25_TraceLine_13 (P : Program) (call : FuncId → List AVal → Heap → Res AVal) (fuel : Nat) (k : Kn (Ex × T)) (t : T) (h : Heap) : Res (Ex × T) :=
arb (.val (t 14) h) call fun v_207 h208 =>
arb (.of (aBin P .add 3 (.tmp 136) (.const (.int .i64 1)) v_207 (.int .i64 1)) h208) call fun v_209 h210 =>
arb (.val v_209 h210) call fun k_211 h212 =>
k .normal (upd (upd (upd t 136 v_207) 137 v_209) 14 k_211) h212

def J_precentorlaw25_TraceLine_16 (P : Program) (call : FuncId → List AVal → Heap → Res AVal) (fuel : Nat) (k : Kn (Ex × T)) (t : T) (h : Heap) : Res (Ex × T) :=
arb (.val (t 15) h) call fun v_218 h219 =>
arb (.of (aBin P .add 3 (.tmp 142) (.const (.int .i64 1)) v_218 (.int .i64 1)) h219) call fun v_220 h221 =>
arb (.val v_220 h221) call fun i_222 h223 =>
k .normal (upd (upd (upd t 142 v_218) 143 v_220) 15 i_222) h223

def J_precentorlaw25_TraceLine_19 (P : Program) (call : FuncId → List AVal → Heap → Res AVal) (fuel : Nat) (k : Kn (Ex × T)) (t : T) (h : Heap) : Res (Ex × T) :=
arb (.val (t 16) h) call fun v_229 h230 =>
arb (.of (aBin P .add 3 (.tmp 148) (.const (.int .i64 1)) v_229 (.int .i64 1)) h230) call fun v_231 h232 =>
arb (.val v_231 h232) call fun j_233 h234 =>
k .normal (upd (upd (upd t 148 v_229) 149 v_231) 16 j_233) h234

def J_precentorlaw25_TraceLine_18 (P : Program) (call : FuncId → List AVal → Heap → Res AVal) (fuel : Nat) (k : Kn (Ex × T)) (t : T) (h : Heap) : Res (Ex × T) :=
lt (sqK (J_precentorlaw25_TraceLine_19 P call fuel k) k) fun k235 =>
lt (blkK 13 k235) fun k236 =>
obv (.val (t 15) h) fun v_237 =>
obv (.val (t 16) h) fun v_239 =>
obv (.val (t 15) h) fun v_241 =>
obv (.val (t 16) h) fun v_243 =>
obv (.of (ixpR 30 30 (t 9) v_241) h) fun v_245 =>
obv (.of (ixpR 30 1 v_245 v_243) h) fun v_247 =>
obv (.of (ld1 h v_247) h) fun v_249 => ifb true <|
obv (.val v_249 h) fun v_251 =>
gdr (wantB v_251 false) (fun c => obv (.val (t 15) h) fun v_253 =>
c true v_253 h) h fun w255 v_253 h255 =>
gdr (wantB v_251 false) (fun c => obv (.val (t 14) h255) fun v_256 =>
c true v_256 h255) h255 fun w258 v_256 h258 =>
gdr (wantB v_251 false) (fun c => obv (.of (ixpR 30 30 (t 9) v_253) h258) fun v_259 =>
c true v_259 h258) h258 fun w261 v_259 h261 =>
gdr (wantB v_251 false) (fun c => obv (.of (ixpR 30 1 v_259 v_256) h261) fun v_262 =>
c true v_262 h261) h261 fun w264 v_262 h264 =>
gdr (wantB v_251 false) (fun c => obv (.of (ld1 h264 v_262) h264) fun v_265 => ifb true <|
c true v_265 h264) h264 fun w267 v_265 h267 =>
gdr (wantB v_251 false) (fun c => obv (.val v_265 h267) fun v_268 =>
c true v_268 h267) h267 fun w270 v_268 h270 =>
gdr (wantB v_268 true) (fun c => obv (.val (t 14) h270) fun v_271 =>
c true v_271 h270) h270 fun w273 v_271 h273 =>
gdr (wantB v_268 true) (fun c => obv (.val (t 16) h273) fun v_274 =>
c true v_274 h273) h273 fun w276 v_274 h276 =>
gdr (wantB v_268 true) (fun c => obv (.of (ixpR 30 30 (t 9) v_271) h276) fun v_277 =>
c true v_277 h276) h276 fun w279 v_277 h279 =>
gdr (wantB v_268 true) (fun c => obv (.of (ixpR 30 1 v_277 v_274) h279) fun v_280 =>
c true v_280 h279) h279 fun w282 v_280 h282 =>
gdr (wantB v_268 true) (fun c => obv (.of (ld1 h282 v_280) h282) fun v_283 => ifb true <|
c true v_283 h282) h282 fun w285 v_283 h285 =>
gdr (wantB v_251 false) (fun c => obv (pkR v_268 v_283 (.bool false) h285) fun v_286 =>
c true v_286 h285) h285 fun w288 v_286 h288 =>
obv (pkR v_251 (.bool true) v_286 h288) fun v_289 =>
obv (.of (ixpR 30 30 (t 9) v_237) h288) fun v_291 =>
obv (.of (ixpR 30 1 v_291 v_239) h288) fun v_293 =>
arbE (stR 1 h288 v_293 v_289) call fun v_295 h296 => lt h296 fun g296 => ifb (true && true) <|
k236 .normal (upd (upd (upd (upd (upd (upd (upd (upd (upd (upd (upd (upd (upd (upd (upd (upd (upd (upd (upd (upd (upd (upd (upd t 150 v_237) 151 v_239) 152 v_241) 153 v_243) 154 v_245) 155 v_247) 156 v_249) 157 v_251) 158 v_253) 159 v_256) 160 v_259) 161 v_262) 162 v_265) 163 v_268) 164 v_271) 165 v_274) 166 v_277) 167 v_280) 168 v_283) 169 v_286) 170 v_289) 171 v_291) 172 v_293) g296

def L_precentorlaw25_TraceLine_17 (P : Program) (call : FuncId → List AVal → Heap → Res AVal) (fuel : Nat) (t : T) (h : Heap) : Res (Ex × T) :=
lt okK fun k =>
lt (sqK (J_precentorlaw25_TraceLine_18 P call fuel k) k) fun k297 =>
arb (.val (t 16) h) call fun v_298 h299 =>
arb (.val (t 6) h299) call fun v_300 h301 =>
arb (.of (lenL v_300) h301) call fun v_302 h303 =>
arb (.of (aBin P .lss 3 (.tmp 144) (.tmp 146) v_298 v_302) h303) call fun v_304 h305 =>
cb v_304 (
k297 .normal (upd (upd (upd (upd t 144 v_298) 145 v_300) 146 v_302) 147 v_304) h305) (
k297 (.exit 12) (upd (upd (upd (upd t 144 v_298) 145 v_300) 146 v_302) 147 v_304) h305)

def J_precentorlaw25_TraceLine_15 (P : Program) (call : FuncId → List AVal → Heap → Res AVal) (fuel : Nat) (k : Kn (Ex × T)) (t : T) (h : Heap) : Res (Ex × T) :=
lt (sqK (J_precentorlaw25_TraceLine_16 P call fuel k) k) fun k224 =>
lt (blkK 11 k224) fun k225 =>
arb (.val (.int .i64 0) h) call fun j_226 h227 =>
lt (blkK 12 k225) fun k228 =>
(loopN (L_precentorlaw25_TraceLine_17 P call fuel) fuel (upd t 16 j_226) h227).bind (lpK k228)

def L_precentorlaw25_TraceLine_14 (P : Program) (call : FuncId → List AVal → Heap → Res AVal) (fuel : Nat) (t : T) (h : Heap) : Res (Ex × T) :=
lt okK fun k =>
lt (sqK (J_precentorlaw25_TraceLine_15 P call fuel k) k) fun k306 =>
arb (.val (t 15) h) call fun v_307 h308 =>
arb (.val (t 6) h308) call fun v_309 h310 =>
arb (.of (lenL v_309) h310) call fun v_311 h312 =>
arb (.of (aBin P .lss 3 (.tmp 138) (.tmp 140) v_307 v_311) h312) call fun v_313 h314 =>
cb v_313 (
k306 .normal (upd (upd (upd (upd t 138 v_307) 139 v_309) 140 v_311) 141 v_313) h314) (
k306 (.exit 10) (upd (upd (upd (upd t 138 v_307) 139 v_309) 140 v_311) 141 v_313) h314)

def J_precentorlaw25_TraceLine_12 (P : Program) (call : FuncId → List AVal → Heap → Res AVal) (fuel : Nat) (k : Kn (Ex × T)) (t : T) (h : Heap) : Res (Ex × T) :=
lt (sqK (J_precentorlaw25_TraceLine_13 P call fuel k) k) fun k213 =>
lt (blkK 9 k213) fun k214 =>
arb (.val (.int .i64 0) h) call fun i_215 h216 =>
lt (blkK 10 k214) fun k217 =>
(loopN (L_precentorlaw25_TraceLine_14 P call fuel) fuel (upd t 15 i_215) h216).bind (lpK k217)

def L_precentorlaw25_TraceLine_11 (P : Program) (call : FuncId → List AVal → Heap → Res AVal) (fuel : Nat) (t : T) (h : Heap) : Res (Ex × T) :=
lt okK fun k =>
lt (sqK (J_precentorlaw25_TraceLine_12 P call fuel k) k) fun k315 =>
arb (.val (t 14) h) call fun v_316 h317 =>
arb (.val (t 6) h317) call fun v_318 h319 =>
arb (.of (lenL v_318) h319) call fun v_320 h321 =>
arb (.of (aBin P .lss 3 (.tmp 132) (.tmp 134) v_316 v_320) h321) call fun v_322 h323 =>
cb v_322 (
k315 .normal (upd (upd (upd (upd t 132 v_316) 133 v_318) 134 v_320) 135 v_322) h323) (
k315 (.exit 8) (upd (upd (upd (upd t 132 v_316) 133 v_318) 134 v_320) 135 v_322) h323)

def J_precentorlaw25_TraceLine_2 (P : Program) (call : FuncId → List AVal → Heap → Res AVal) (fuel : Nat) (k : Kn (AVal)) (t : T) (h : Heap) : Res (AVal) :=
lt (sqK (J_precentorlaw25_TraceLine_3 P call fuel k) k) fun k203 =>
arb (.val (.int .i64 0) h) call fun k_204 h205 =>
lt (blkK 8 k203) fun k206 =>
(loopN (L_precentorlaw25_TraceLine_11 P call fuel) fuel (upd t 14 k_204) h205).bind (lpK k206)

def J_precentorlaw25_TraceLine_22 (P : Program) (call : FuncId → List AVal → Heap → Res AVal) (fuel : Nat) (k : Kn (Ex × T)) (t : T) (h : Heap) : Res (Ex × T) :=
arb (.val (t 10) h) call fun v_328 h329 =>
arb (.of (aBin P .add 3 (.tmp 81) (.const (.int .i64 1)) v_328 (.int .i64 1)) h329) call fun v_330 h331 =>
arb (.val v_330 h331) call fun c_332 h333 =>
k .normal (upd (upd (upd t 81 v_328) 82 v_330) 10 c_332) h333

def J_precentorlaw25_TraceLine_25 (P : Program) (call : FuncId → List AVal → Heap → Res AVal) (fuel : Nat) (k : Kn (Ex × T)) (t : T) (h : Heap) : Res (Ex × T) :=
arb (.val (t 12) h) call fun v_347 h348 =>
arb (.of (aBin P .add 3 (.tmp 90) (.const (.int .i64 1)) v_347 (.int .i64 1)) h348) call fun v_349 h350 =>
arb (.val v_349 h350) call fun i_351 h352 =>
k .normal (upd (upd (upd t 90 v_347) 91 v_349) 12 i_351) h352

def J_precentorlaw25_TraceLine_28 (P : Program) (call : FuncId → List AVal → Heap → Res AVal) (fuel : Nat) (k : Kn (Ex × T)) (t : T) (h : Heap) : Res (Ex × T) :=
arb (.val (t 13) h) call fun v_362 h363 =>
arb (.of (aBin P .add 3 (.tmp 98) (.const (.int .i64 1)) v_362 (.int .i64 1)) h363) call fun v_364 h365 =>
arb (.val v_364 h365) call fun k_366 h367 =>
k .normal (upd (upd (upd t 98 v_362) 99 v_364) 13 k_366) h367

def J_precentorlaw25_TraceLine_27 (P : Program) (call : FuncId → List AVal → Heap → Res AVal) (fuel : Nat) (k : Kn (Ex × T)) (t : T) (h : Heap) : Res (Ex × T) :=
lt (sqK (J_precentorlaw25_TraceLine_28 P call fuel k) k) fun k368 =>
lt (blkK 7 k368) fun k369 =>
arb (.val (t 11) h) call fun v_370 h371 =>
arb (.val (t 11) h371) call fun v_372 h373 =>
arb (.val (t 12) h373) call fun v_374 h375 =>
arb (.of (ixsR 2 v_372 v_374) h375) call fun v_376 h377 =>
arb (.of (ldn 2 h377 v_376) h377) call fun v_378 h379 =>
arb (.call F_precentorlaw25_at [v_370, v_378] h379) call fun v_380 h381 =>
arb (.val (t 12) h381) call fun v_382 h383 =>
arb (.of (aBin P .eql 3 (.tmp 105) (.tmp 106) v_380 v_382) h383) call fun v_384 h385 =>
arb (.val v_384 h385) call fun v_386 h387 =>
gd (wantB v_386 true) (fun c => arb (.val (t 11) h387) call c) h387 fun v_388 h389 =>
gd (wantB v_386 true) (fun c => arb (.val (t 11) h389) call c) h389 fun v_390 h391 =>
gd (wantB v_386 true) (fun c => arb (.val (t 13) h391) call c) h391 fun v_392 h393 =>
gd (wantB v_386 true) (fun c => arb (.of (ixsR 2 v_390 v_392) h393) call c) h393 fun v_394 h395 =>
gd (wantB v_386 true) (fun c => arb (.of (ldn 2 h395 v_394) h395) call c) h395 fun v_396 h397 =>
gd (wantB v_386 true) (fun c => arb (.call F_precentorlaw25_at [v_388, v_396] h397) call c) h397 fun v_398 h399 =>
gd (wantB v_386 true) (fun c => arb (.val (t 13) h399) call c) h399 fun v_400 h401 =>
gd (wantB v_386 true) (fun c => arb (.of (aBin P .eql 3 (.tmp 114) (.tmp 115) v_398 v_400) h401) call c) h401 fun v_402 h403 =>
arb (pkR v_386 v_402 (.bool false) h403) call fun v_404 h405 =>
cb v_404 (
obv (.val (t 6) h405) fun v_406 =>
obv (.val (t 11) h405) fun v_408 =>
obv (.val (t 12) h405) fun v_410 =>
obv (.of (ixsR 2 v_408 v_410) h405) fun v_412 =>
obv (.of (ldn 2 h405 v_412) h405) fun v_414 => ifb true <|
arbE (.call F_precentorlaw25_at [v_406, v_414] h405) call fun v_416 h417 => lt h417 fun g417 => ifb (true && true) <|
obv (.val (t 6) g417) fun v_418 =>
obv (.val (t 11) g417) fun v_420 =>
obv (.val (t 13) g417) fun v_422 =>
obv (.of (ixsR 2 v_420 v_422) g417) fun v_424 =>
obv (.of (ldn 2 g417 v_424) g417) fun v_426 => ifb (isV v_426 (arVal (.of (ldn 2 h405 v_424) h405)) && true) <|
arbE (.call F_precentorlaw25_at [v_418, v_426] g417) call fun v_428 h429 => lt h429 fun g429 => ifb (true && true) <|
obv (.of (ixpR 30 30 (t 9) v_416) g429) fun v_430 =>
obv (.of (ixpR 30 1 v_430 v_428) g429) fun v_432 =>
arbE (stR 1 g429 v_432 (.bool true)) call fun v_434 h435 => lt h435 fun g435 => ifb (true && true) <|
k369 .normal (upd (upd (upd (upd (upd (upd (upd (upd (upd (upd (upd (upd (upd (upd (upd (upd (upd (upd (upd (upd (upd (upd (upd (upd (upd (upd (upd (upd (upd (upd (upd (upd t 100 v_370) 101 v_372) 102 v_374) 103 v_376) 104 v_378) 105 v_380) 106 v_382) 107 v_384) 108 v_386) 109 v_388) 110 v_390) 111 v_392) 112 v_394) 113 v_396) 114 v_398) 115 v_400) 116 v_402) 117 v_404) 118 v_406) 119 v_408) 120 v_410) 121 v_412) 122 v_414) 123 v_416) 124 v_418) 125 v_420) 126 v_422) 127 v_424) 128 v_426) 129 v_428) 130 v_430) 131 v_432) g435) (
k369 .normal (upd (upd (upd (upd (upd (upd (upd (upd (upd (upd (upd (upd (upd (upd (upd (upd (upd (upd t 100 v_370) 101 v_372) 102 v_374) 103 v_376) 104 v_378) 105 v_380) 106 v_382) 107 v_384) 108 v_386) 109 v_388) 110 v_390) 111 v_392) 112 v_394) 113 v_396) 114 v_398) 115 v_400) 116 v_402) 117 v_404) h405)

def L_precentorlaw25_TraceLine_26 (P : Program) (call : FuncId → List AVal → Heap → Res AVal) (fuel : Nat) (t : T) (h : Heap) : Res (Ex × T) :=
lt okK fun k =>
lt (sqK (J_precentorlaw25_TraceLine_27 P call fuel k) k) fun k436 =>
arb (.val (t 13) h) call fun v_437 h438 =>
arb (.val (t 11) h438) call fun v_439 h440 =>
arb (.of (lenL v_439) h440) call fun v_441 h442 =>
arb (.of (aBin P .lss 3 (.tmp 94) (.tmp 96) v_437 v_441) h442) call fun v_443 h444 =>
cb v_443 (
k436 .normal (upd (upd (upd (upd t 94 v_437) 95 v_439) 96 v_441) 97 v_443) h444) (
k436 (.exit 6) (upd (upd (upd (upd t 94 v_437) 95 v_439) 96 v_441) 97 v_443) h444)

def J_precentorlaw25_TraceLine_24 (P : Program) (call : FuncId → List AVal → Heap → Res AVal) (fuel : Nat) (k : Kn (Ex × T)) (t : T) (h : Heap) : Res (Ex × T) :=
lt (sqK (J_precentorlaw25_TraceLine_25 P call fuel k) k) fun k353 =>
lt (blkK 5 k353) fun k354 =>
arb (.val (t 12) h) call fun v_355 h356 =>
arb (.of (aBin P .add 3 (.tmp 92) (.const (.int .i64 1)) v_355 (.int .i64 1)) h356) call fun v_357 h358 =>
arb (.val v_357 h358) call fun k_359 h360 =>
lt (blkK 6 k354) fun k361 =>
(loopN (L_precentorlaw25_TraceLine_26 P call fuel) fuel (upd (upd (upd t 92 v_355) 93 v_357) 13 k_359) h360).bind (lpK k361)

def L_precentorlaw25_TraceLine_23 (P : Program) (call : FuncId → List AVal → Heap → Res AVal) (fuel : Nat) (t : T) (h : Heap) : Res (Ex × T) :=
lt okK fun k =>
lt (sqK (J_precentorlaw25_TraceLine_24 P call fuel k) k) fun k445 =>
arb (.val (t 12) h) call fun v_446 h447 =>
arb (.val (t 11) h447) call fun v_448 h449 =>
arb (.of (lenL v_448) h449) call fun v_450 h451 =>
arb (.of (aBin P .lss 3 (.tmp 86) (.tmp 88) v_446 v_450) h451) call fun v_452 h453 =>
cb v_452 (
k445 .normal (upd (upd (upd (upd t 86 v_446) 87 v_448) 88 v_450) 89 v_452) h453) (
k445 (.exit 4) (upd (upd (upd (upd t 86 v_446) 87 v_448) 88 v_450) 89 v_452) h453)

def J_precentorlaw25_TraceLine_21 (P : Program) (call : FuncId → List AVal → Heap → Res AVal) (fuel : Nat) (k : Kn (Ex × T)) (t : T) (h : Heap) : Res (Ex × T) :=
lt (sqK (J_precentorlaw25_TraceLine_22 P call fuel k) k) fun k334 =>
lt (blkK 3 k334) fun k335 =>
arb (.val (t 3) h) call fun v_336 h337 =>
arb (.val (t 10) h337) call fun v_338 h339 =>
arb (.call F_trace_Heard [v_336, v_338] h339) call fun v_340 h341 =>
arb (.val v_340 h341) call fun h_342 h343 =>
arb (.val (.int .i64 0) h343) call fun i_344 h345 =>
lt (blkK 4 k335) fun k346 =>
(loopN (L_precentorlaw25_TraceLine_23 P call fuel) fuel (upd (upd (upd (upd (upd t 83 v_336) 84 v_338) 85 v_340) 11 h_342) 12 i_344) h345).bind (lpK k346)

def L_precentorlaw25_TraceLine_20 (P : Program) (call : FuncId → List AVal → Heap → Res AVal) (fuel : Nat) (t : T) (h : Heap) : Res (Ex × T) :=
lt okK fun k =>
lt (sqK (J_precentorlaw25_TraceLine_21 P call fuel k) k) fun k454 =>
arb (.val (t 10) h) call fun v_455 h456 =>
arb (.of (aBin P .leq 3 (.tmp 79) (.const (.int .i64 3)) v_455 (.int .i64 3)) h456) call fun v_457 h458 =>
cb v_457 (
k454 .normal (upd (upd t 79 v_455) 80 v_457) h458) (
k454 (.exit 2) (upd (upd t 79 v_455) 80 v_457) h458)

def J_precentorlaw25_TraceLine_1 (P : Program) (call : FuncId → List AVal → Heap → Res AVal) (fuel : Nat) (k : Kn (AVal)) (t : T) (h : Heap) : Res (AVal) :=
arb (newR [(.bool false), (.bool false), (.bool false), (.bool false), (.bool false), (.bool false), (.bool false), (.bool false), (.bool false), (.bool false), (.bool false), (.bool false), (.bool false), (.bool false), (.bool false), (.bool false), (.bool false), (.bool false), (.bool false), (.bool false), (.bool false), (.bool false), (.bool false), (.bool false), (.bool false), (.bool false), (.bool false), (.bool false), (.bool false), (.bool false), (.bool false), (.bool false), (.bool false), (.bool false), (.bool false), (.bool false), (.bool false), (.bool false), (.bool false), (.bool false), (.bool false), (.bool false), (.bool false), (.bool false), (.bool false), (.bool false), (.bool false), (.bool false), (.bool false), (.bool false), (.bool false), (.bool false), (.bool false), (.bool false), (.bool false), (.bool false), (.bool false), (.bool false), (.bool false), (.bool false), (.bool false), (.bool false), (.bool false), (.bool false), (.bool false), (.bool false), (.bool false), (.bool false), (.bool false), (.bool false), (.bool false), (.bool false), (.bool false), (.bool false), (.bool false), (.bool false), (.bool false), (.bool false), (.bool false), (.bool false), (.bool false), (.bool false), (.bool false), (.bool false), (.bool false), (.bool false), (.bool false), (.bool false), (.bool false), (.bool false), (.bool false), (.bool false), (.bool false), (.bool false), (.bool false), (.bool false), (.bool false), (.bool false), (.bool false), (.bool false), (.bool false), (.bool false), (.bool false), (.bool false), (.bool false), (.bool false), (.bool false), (.bool false), (.bool false), (.bool false), (.bool false), (.bool false), (.bool false), (.bool false), (.bool false), (.bool false), (.bool false), (.bool false), (.bool false), (.bool false), (.bool false), (.bool false), (.bool false), (.bool false), (.bool false), (.bool false), (.bool false), (.bool false), (.bool false), (.bool false), (.bool false), (.bool false), (.bool false), (.bool false), (.bool false), (.bool false), (.bool false), (.bool false), (.bool false), (.bool false), (.bool false), (.bool false), (.bool false), (.bool false), (.bool false), (.bool false), (.bool false), (.bool false), (.bool false), (.bool false), (.bool false), (.bool false), (.bool false), (.bool false), (.bool false), (.bool false), (.bool false), (.bool false), (.bool false), (.bool false), (.bool false), (.bool false), (.bool false), (.bool false), (.bool false), (.bool false), (.bool false), (.bool false), (.bool false), (.bool false), (.bool false), (.bool false), (.bool false), (.bool false), (.bool false), (.bool false), (.bool false), (.bool false), (.bool false), (.bool false), (.bool false), (.bool false), (.bool false), (.bool false), (.bool false), (.bool false), (.bool false), (.bool false), (.bool false), (.bool false), (.bool false), (.bool false), (.bool false), (.bool false), (.bool false), (.bool false), (.bool false), (.bool false), (.bool false), (.bool false), (.bool false), (.bool false), (.bool false), (.bool false), (.bool false), (.bool false), (.bool false), (.bool false), (.bool false), (.bool false), (.bool false), (.bool false), (.bool false), (.bool false), (.bool false), (.bool false), (.bool false), (.bool false), (.bool false), (.bool false), (.bool false), (.bool false), (.bool false), (.bool false), (.bool false), (.bool false), (.bool false), (.bool false), (.bool false), (.bool false), (.bool false), (.bool false), (.bool false), (.bool false), (.bool false), (.bool false), (.bool false), (.bool false), (.bool false), (.bool false), (.bool false), (.bool false), (.bool false), (.bool false), (.bool false), (.bool false), (.bool false), (.bool false), (.bool false), (.bool false), (.bool false), (.bool false), (.bool false), (.bool false), (.bool false), (.bool false), (.bool false), (.bool false), (.bool false), (.bool false), (.bool false), (.bool false), (.bool false), (.bool false), (.bool false), (.bool false), (.bool false), (.bool false), (.bool false), (.bool false), (.bool false), (.bool false), (.bool false), (.bool false), (.bool false), (.bool false), (.bool false), (.bool false), (.bool false), (.bool false), (.bool false), (.bool false), (.bool false), (.bool false), (.bool false), (.bool false), (.bool false), (.bool false), (.bool false), (.bool false), (.bool false), (.bool false), (.bool false), (.bool false), (.bool false), (.bool false), (.bool false), (.bool false), (.bool false), (.bool false), (.bool false), (.bool false), (.bool false), (.bool false), (.bool false), (.bool false), (.bool false), (.bool false), (.bool false), (.bool false), (.bool false), (.bool false), (.bool false), (.bool false), (.bool false), (.bool false), (.bool false), (.bool false), (.bool false), (.bool false), (.bool false), (.bool false), (.bool false), (.bool false), (.bool false), (.bool false), (.bool false), (.bool false), (.bool false), (.bool false), (.bool false), (.bool false), (.bool false), (.bool false), (.bool false), (.bool false), (.bool false), (.bool false), (.bool false), (.bool false), (.bool false), (.bool false), (.bool false), (.bool false), (.bool false), (.bool false), (.bool false), (.bool false), (.bool false), (.bool false), (.bool false), (.bool false), (.bool false), (.bool false), (.bool false), (.bool false), (.bool false), (.bool false), (.bool false), (.bool false), (.bool false), (.bool false), (.bool false), (.bool false), (.bool false), (.bool false), (.bool false), (.bool false), (.bool false), (.bool false), (.bool false), (.bool false), (.bool false), (.bool false), (.bool false), (.bool false), (.bool false), (.bool false), (.bool false), (.bool false), (.bool false), (.bool false), (.bool false), (.bool false), (.bool false), (.bool false), (.bool false), (.bool false), (.bool false), (.bool false), (.bool false), (.bool false), (.bool false), (.bool false), (.bool false), (.bool false), (.bool false), (.bool false), (.bool false), (.bool false), (.bool false), (.bool false), (.bool false), (.bool false), (.bool false), (.bool false), (.bool false), (.bool false), (.bool false), (.bool false), (.bool false), (.bool false), (.bool false), (.bool false), (.bool false), (.bool false), (.bool false), (.bool false), (.bool false), (.bool false), (.bool false), (.bool false), (.bool false), (.bool false), (.bool false), (.bool false), (.bool false), (.bool false), (.bool false), (.bool false), (.bool false), (.bool false), (.bool false), (.bool false), (.bool false), (.bool false), (.bool false), (.bool false), (.bool false), (.bool false), (.bool false), (.bool false), (.bool false), (.bool false), (.bool false), (.bool false), (.bool false), (.bool false), (.bool false), (.bool false), (.bool false), (.bool false), (.bool false), (.bool false), (.bool false), (.bool false), (.bool false), (.bool false), (.bool false), (.bool false), (.bool false), (.bool false), (.bool false), (.bool false), (.bool false), (.bool false), (.bool false), (.bool false), (.bool false), (.bool false), (.bool false), (.bool false), (.bool false), (.bool false), (.bool false), (.bool false), (.bool false), (.bool false), (.bool false), (.bool false), (.bool false), (.bool false), (.bool false), (.bool false), (.bool false), (.bool false), (.bool false), (.bool false), (.bool false), (.bool false), (.bool false), (.bool false), (.bool false), (.bool false), (.bool false), (.bool false), (.bool false), (.bool false), (.bool false), (.bool false), (.bool false), (.bool false), (.bool false), (.bool false), (.bool false), (.bool false), (.bool false), (.bool false), (.bool false), (.bool false), (.bool false), (.bool false), (.bool false), (.bool false), (.bool false), (.bool false), (.bool false), (.bool false), (.bool false), (.bool false), (.bool false), (.bool false), (.bool false), (.bool false), (.bool false), (.bool false), (.bool false), (.bool false), (.bool false), (.bool false), (.bool false), (.bool false), (.bool false), (.bool false), (.bool false), (.bool false), (.bool false), (.bool false), (.bool false), (.bool false), (.bool false), (.bool false), (.bool false), (.bool false), (.bool false), (.bool false), (.bool false), (.bool false), (.bool false), (.bool false), (.bool false), (.bool false), (.bool false), (.bool false), (.bool false), (.bool false), (.bool false), (.bool false), (.bool false), (.bool false), (.bool false), (.bool false), (.bool false), (.bool false), (.bool false), (.bool false), (.bool false), (.bool false), (.bool false), (.bool false), (.bool false), (.bool false), (.bool false), (.bool false), (.bool false), (.bool false), (.bool false), (.bool false), (.bool false), (.bool false), (.bool false), (.bool false), (.bool false), (.bool false), (.bool false), (.bool false), (.bool false), (.bool false), (.bool false), (.bool false), (.bool false), (.bool false), (.bool false), (.bool false), (.bool false), (.bool false), (.bool false), (.bool false), (.bool false), (.bool false), (.bool false), (.bool false), (.bool false), (.bool false), (.bool false), (.bool false), (.bool false), (.bool false), (.bool false), (.bool false), (.bool false), (.bool false), (.bool false), (.bool false), (.bool false), (.bool false), (.bool false), (.bool false), (.bool false), (.bool false), (.bool false), (.bool false), (.bool false), (.bool false), (.bool false), (.bool false), (.bool false), (.bool false), (.bool false), (.bool false), (.bool false), (.bool false), (.bool false), (.bool false), (.bool false), (.bool false), (.bool false), (.bool false), (.bool false), (.bool false), (.bool false), (.bool false), (.bool false), (.bool false), (.bool false), (.bool false), (.bool false), (.bool false), (.bool false), (.bool false), (.bool false), (.bool false), (.bool false), (.bool false), (.bool false), (.bool false), (.bool false), (.bool false), (.bool false), (.bool false), (.bool false), (.bool false), (.bool false), (.bool false), (.bool false), (.bool false), (.bool false), (.bool false), (.bool false), (.bool false), (.bool false), (.bool false), (.bool false), (.bool false), (.bool false), (.bool false), (.bool false), (.bool false), (.bool false), (.bool false), (.bool false), (.bool false), (.bool false), (.bool false), (.bool false), (.bool false), (.bool false), (.bool false), (.bool false), (.bool false), (.bool false), (.bool false), (.bool false), (.bool false), (.bool false), (.bool false), (.bool false), (.bool false), (.bool false), (.bool false), (.bool false), (.bool false), (.bool false), (.bool false), (.bool false), (.bool false), (.bool false), (.bool false), (.bool false), (.bool false), (.bool false), (.bool false), (.bool false), (.bool false), (.bool false), (.bool false), (.bool false), (.bool false), (.bool false), (.bool false), (.bool false), (.bool false), (.bool false), (.bool false), (.bool false), (.bool false), (.bool false), (.bool false), (.bool false), (.bool false), (.bool false), (.bool false), (.bool false), (.bool false), (.bool false), (.bool false), (.bool false), (.bool false), (.bool false), (.bool false), (.bool false), (.bool false), (.bool false), (.bool false), (.bool false), (.bool false), (.bool false), (.bool false), (.bool false), (.bool false), (.bool false), (.bool false), (.bool false), (.bool false), (.bool false), (.bool false), (.bool false), (.bool false), (.bool false), (.bool false), (.bool false), (.bool false), (.bool false), (.bool false), (.bool false), (.bool false), (.bool false), (.bool false), (.bool false), (.bool false), (.bool false), (.bool false), (.bool false), (.bool false), (.bool false), (.bool false), (.bool false), (.bool false), (.bool false), (.bool false), (.bool false), (.bool false), (.bool false), (.bool false), (.bool false), (.bool false), (.bool false), (.bool false), (.bool false), (.bool false), (.bool false), (.bool false), (.bool false), (.bool false), (.bool false), (.bool false), (.bool false), (.bool false), (.bool false), (.bool false), (.bool false), (.bool false), (.bool false), (.bool false), (.bool false), (.bool false), (.bool false), (.bool false), (.bool false), (.bool false), (.bool false), (.bool false), (.bool false), (.bool false), (.bool false), (.bool false), (.bool false), (.bool false), (.bool false), (.bool false), (.bool false), (.bool false), (.bool false), (.bool false), (.bool false), (.bool false), (.bool false), (.bool false), (.bool false), (.bool false), (.bool false), (.bool false), (.bool false), (.bool false), (.bool false), (.bool false), (.bool false), (.bool false), (.bool false), (.bool false), (.bool false), (.bool false), (.bool false), (.bool false), (.bool false), (.bool false), (.bool false), (.bool false), (.bool false), (.bool false), (.bool false), (.bool false), (.bool false), (.bool false), (.bool false), (.bool false), (.bool false), (.bool false), (.bool false), (.bool false), (.bool false), (.bool false), (.bool false), (.bool false), (.bool false), (.bool false), (.bool false), (.bool false), (.bool false), (.bool false), (.bool false), (.bool false), (.bool false), (.bool false), (.bool false), (.bool false), (.bool false), (.bool false), (.bool false), (.bool false), (.bool false), (.bool false), (.bool false), (.bool false), (.bool false), (.bool false), (.bool false), (.bool false), (.bool false), (.bool false), (.bool false), (.bool false), (.bool false), (.bool false), (.bool false), (.bool false), (.bool false), (.bool false), (.bool false), (.bool false)] h) call fun ahead_24 h25 =>
lt (sqK (J_precentorlaw25_TraceLine_2 P call fuel k) k) fun k324 =>
arb (.val (.int .i64 1) h25) call fun c_325 h326 =>
lt (blkK 2 k324) fun k327 =>
(loopN (L_precentorlaw25_TraceLine_20 P call fuel) fuel (upd (upd t 9 ahead_24) 10 c_325) h326).bind (lpK k327)

def J_precentorlaw25_TraceLine_31 (P : Program) (call : FuncId → List AVal → Heap → Res AVal) (fuel : Nat) (k : Kn (Ex × T)) (t : T) (h : Heap) : Res (Ex × T) :=
arb (.val (t 7) h) call fun v_463 h464 =>
arb (.of (aBin P .add 3 (.tmp 50) (.const (.int .i64 1)) v_463 (.int .i64 1)) h464) call fun v_465 h466 =>
arb (.val v_465 h466) call fun i_467 h468 =>
k .normal (upd (upd (upd t 50 v_463) 51 v_465) 7 i_467) h468

def J_precentorlaw25_TraceLine_30 (P : Program) (call : FuncId → List AVal → Heap → Res AVal) (fuel : Nat) (k : Kn (Ex × T)) (t : T) (h : Heap) : Res (Ex × T) :=
lt (sqK (J_precentorlaw25_TraceLine_31 P call fuel k) k) fun k469 =>
lt (blkK 1 k469) fun k470 =>
obv (.val (t 3) h) fun v_471 =>
obv (.val (t 7) h) fun v_473 =>
obv (.of (ixsR 4 v_471 v_473) h) fun v_475 =>
obv (.of (fadR 2 v_475) h) fun v_477 =>
obv (.of (ld1 h v_477) h) fun v_479 => ifb true <|
obv (.val (t 3) h) fun v_481 =>
obv (.val (t 7) h) fun v_483 =>
obv (.of (ixsR 4 v_481 v_483) h) fun v_485 =>
obv (.of (fadR 3 v_485) h) fun v_487 =>
obv (.of (ld1 h v_487) h) fun v_489 => ifb true <|
obv (.of (bldR [(.int .i64 0), (.int .i64 0)] [(0, 1, v_479), (1, 1, v_489)]) h) fun v_491 =>
arbV (newR [(.int .i64 0), (.int .i64 0)] h) fun x_493 h494 =>
arbE (stR 2 h494 x_493 v_491) call fun v_495 h496 => lt h496 fun g496 => ifb (true && true) <|
arb (.val (t 3) g496) call fun v_497 h498 =>
arb (.val (t 7) h498) call fun v_499 h500 =>
arb (.of (ixsR 4 v_497 v_499) h500) call fun v_501 h502 =>
arb (.of (fadR 0 v_501) h502) call fun v_503 h504 =>
arb (.of (ld1 h504 v_503) h504) call fun v_505 h506 =>
arb (.of (aUn P .not v_505) h506) call fun v_507 h508 =>
arb (.val v_507 h508) call fun v_509 h510 =>
gd (wantB v_509 true) (fun c => arb (.val (t 6) h510) call c) h510 fun v_511 h512 =>
gd (wantB v_509 true) (fun c => arb (.of (ldn 2 h512 x_493) h512) call c) h512 fun v_513 h514 =>
gd (wantB v_509 true) (fun c => arb (.call F_precentorlaw25_at [v_511, v_513] h514) call c) h514 fun v_515 h516 =>
gd (wantB v_509 true) (fun c => arb (.of (aBin P .lss 3 (.tmp 72) (.const (.int .i64 0)) v_515 (.int .i64 0)) h516) call c) h516 fun v_517 h518 =>
arb (pkR v_509 v_517 (.bool false) h518) call fun v_519 h520 =>
cb v_519 (
arb (.val (t 6) h520) call fun v_521 h522 =>
arb (.of (ldn 2 h522 x_493) h522) call fun v_523 h524 =>
arb (bslR 2 [(.int .i64 0), (.int .i64 0)] 1 h524 [(0, 2, v_523)]) call fun v_525 h526 =>
arb (appR 2 16 h526 v_521 v_525) call fun v_527 h528 =>
arb (.val v_527 h528) call fun all_529 h530 =>
k470 .normal (upd (upd (upd (upd (upd (upd (upd (upd (upd (upd (upd (upd (upd (upd (upd (upd (upd (upd (upd (upd (upd (upd (upd (upd (upd (upd (upd (upd (upd t 52 v_471) 53 v_473) 54 v_475) 55 v_477) 56 v_479) 57 v_481) 58 v_483) 59 v_485) 60 v_487) 61 v_489) 62 v_491) 8 x_493) 63 v_497) 64 v_499) 65 v_501) 66 v_503) 67 v_505) 68 v_507) 69 v_509) 70 v_511) 71 v_513) 72 v_515) 73 v_517) 74 v_519) 75 v_521) 76 v_523) 77 v_525) 78 v_527) 6 all_529) h530) (
k470 .normal (upd (upd (upd (upd (upd (upd (upd (upd (upd (upd (upd (upd (upd (upd (upd (upd (upd (upd (upd (upd (upd (upd (upd (upd t 52 v_471) 53 v_473) 54 v_475) 55 v_477) 56 v_479) 57 v_481) 58 v_483) 59 v_485) 60 v_487) 61 v_489) 62 v_491) 8 x_493) 63 v_497) 64 v_499) 65 v_501) 66 v_503) 67 v_505) 68 v_507) 69 v_509) 70 v_511) 71 v_513) 72 v_515) 73 v_517) 74 v_519) h520)

def L_precentorlaw25_TraceLine_29 (P : Program) (call : FuncId → List AVal → Heap → Res AVal) (fuel : Nat) (t : T) (h : Heap) : Res (Ex × T) :=
lt okK fun k =>
lt (sqK (J_precentorlaw25_TraceLine_30 P call fuel k) k) fun k531 =>
arb (.val (t 7) h) call fun v_532 h533 =>
arb (.val (t 3) h533) call fun v_534 h535 =>
arb (.of (lenL v_534) h535) call fun v_536 h537 =>
arb (.of (aBin P .lss 3 (.tmp 46) (.tmp 48) v_532 v_536) h537) call fun v_538 h539 =>
cb v_538 (
k531 .normal (upd (upd (upd (upd t 46 v_532) 47 v_534) 48 v_536) 49 v_538) h539) (
k531 (.exit 0) (upd (upd (upd (upd t 46 v_532) 47 v_534) 48 v_536) 49 v_538) h539)

def J_precentorlaw25_TraceLine_0 (P : Program) (call : FuncId → List AVal → Heap → Res AVal) (fuel : Nat) (k : Kn (AVal)) (t : T) (h : Heap) : Res (AVal) :=
arb (.val .nils h) call fun all_22 h23 =>
lt (sqK (J_precentorlaw25_TraceLine_1 P call fuel k) k) fun k459 =>
arb (.val (.int .i64 0) h23) call fun i_460 h461 =>
lt (blkK 0 k459) fun k462 =>
(loopN (L_precentorlaw25_TraceLine_29 P call fuel) fuel (upd (upd t 6 all_22) 7 i_460) h461).bind (lpK k462)

def S_precentorlaw25_TraceLine (P : Program) (call : FuncId → List AVal → Heap → Res AVal) (fuel : Nat) (l_a0 : AVal) (h : Heap) : Res AVal :=
lt (retK P [.tmp 2]) fun k =>
arb (.val (.bool false) h) call fun v_0 h1 =>
arb (.val l_a0 h1) call fun v_2 h3 =>
arb (.call F_precentorlaw25_marks [v_2, .nils, (.bool false)] h3) call fun v_4 h5 =>
arb (.val v_4 h5) call fun m_6 h7 =>
arb (.val m_6 h7) call fun v_8 h9 =>
arb (.call F_trace_Line [v_8] h9) call fun v_10 h11 =>
arb (.val v_10 h11) call fun v_12 h13 =>
arb (extR v_12 0 h13) call fun v_14 h15 =>
arb (extR v_12 1 h15) call fun v_16 h17 =>
arb (.val v_14 h17) call fun row_18 h19 =>
arb (.val v_16 h19) call fun ok_20 h21 =>
lt (sqK (J_precentorlaw25_TraceLine_0 P call fuel k) k) fun k540 =>
arb (.call F_precentorlaw25_known [] h21) call fun v_541 h542 =>
arb (.of (aUn P .not v_541) h542) call fun v_543 h544 =>
arb (.val v_543 h544) call fun v_545 h546 =>
gd (wantB v_545 false) (fun c => arb (.val ok_20 h546) call c) h546 fun v_547 h548 =>
gd (wantB v_545 false) (fun c => arb (.val v_547 h548) call c) h548 fun v_549 h550 =>
gd (wantB v_549 true) (fun c => arb (.val m_6 h550) call c) h550 fun v_551 h552 =>
gd (wantB v_549 true) (fun c => arb (.call F_trace_Agree [v_551] h552) call c) h552 fun v_553 h554 =>
gd (wantB v_549 true) (fun c => arb (.of (aUn P .not v_553) h554) call c) h554 fun v_555 h556 =>
gd (wantB v_545 false) (fun c => arb (pkR v_549 v_555 (.bool false) h556) call c) h556 fun v_557 h558 =>
arb (pkR v_545 (.bool true) v_557 h558) call fun v_559 h560 =>
arb (.val v_559 h560) call fun v_561 h562 =>
gd (wantB v_561 false) (fun c => arb (.val ok_20 h562) call c) h562 fun v_563 h564 =>
gd (wantB v_561 false) (fun c => arb (.of (aUn P .not v_563) h564) call c) h564 fun v_565 h566 =>
gd (wantB v_561 false) (fun c => arb (.val v_565 h566) call c) h566 fun v_567 h568 =>
gd (wantB v_567 true) (fun c => arb (.val row_18 h568) call c) h568 fun v_569 h570 =>
gd (wantB v_567 true) (fun c => arb (.of (lenL v_569) h570) call c) h570 fun v_571 h572 =>
gd (wantB v_567 true) (fun c => arb (.of (aBin P .gtr 3 (.tmp 42) (.const (.int .i64 0)) v_571 (.int .i64 0)) h572) call c) h572 fun v_573 h574 =>
gd (wantB v_561 false) (fun c => arb (pkR v_567 v_573 (.bool false) h574) call c) h574 fun v_575 h576 =>
arb (pkR v_561 (.bool true) v_575 h576) call fun v_577 h578 =>
cb v_577 (
arb (.val (.bool false) h578) call fun v_579 h580 =>
k540 .ret (upd (upd (upd (upd (upd (upd (upd (upd (upd (upd (upd (upd (upd (upd (upd (upd (upd (upd (upd (upd (upd (upd (upd (upd (upd (upd (upd (upd (upd (upd (upd (enterT [l_a0]) 2 v_0) 20 v_2) 21 v_4) 3 m_6) 23 v_8) 24 v_10) 22 v_12) 25 v_14) 26 v_16) 4 row_18) 5 ok_20) 27 v_541) 28 v_543) 29 v_545) 30 v_547) 31 v_549) 32 v_551) 33 v_553) 34 v_555) 35 v_557) 36 v_559) 37 v_561) 38 v_563) 39 v_565) 40 v_567) 41 v_569) 42 v_571) 43 v_573) 44 v_575) 45 v_577) 2 v_579) h580) (
k540 .normal (upd (upd (upd (upd (upd (upd (upd (upd (upd (upd (upd (upd (upd (upd (upd (upd (upd (upd (upd (upd (upd (upd (upd (upd (upd (upd (upd (upd (upd (upd (enterT [l_a0]) 2 v_0) 20 v_2) 21 v_4) 3 m_6) 23 v_8) 24 v_10) 22 v_12) 25 v_14) 26 v_16) 4 row_18) 5 ok_20) 27 v_541) 28 v_543) 29 v_545) 30 v_547) 31 v_549) 32 v_551) 33 v_553) 34 v_555) 35 v_557) 36 v_559) 37 v_561) 38 v_563) 39 v_565) 40 v_567) 41 v_569) 42 v_571) 43 v_573) 44 v_575) 45 v_577) h578)
theorem E_precentorlaw25_TraceLine (call : FuncId → List AVal → Heap → Res AVal) (fuel : Nat) (l_a0 : AVal) (h : Heap) : bodyR Try.prog call fuel Try.f5 [l_a0] h = S_precentorlaw25_TraceLine Try.prog call fuel l_a0 h := by kernel_rfl
theorem R_precentorlaw25_TraceLine {X : XTab} (l_a0 : AVal) {h : Heap} {Q : AVal → Heap → Prop} (hx : X F_precentorlaw25_TraceLine [l_a0] = none) (q : Tells (fun m => S_precentorlaw25_TraceLine Try.prog (acallX Try.prog X m) m l_a0 h) Q) :
    Tells (fun m => acallX Try.prog X m F_precentorlaw25_TraceLine [l_a0] h) Q :=
  Tells.later (q.le fun m => (E_precentorlaw25_TraceLine (acallX Try.prog X m) m l_a0 h) ▸ acallX_le Try.func5 hx m h)

/-! ### precentor/precentorlaw25.TraceCauses -/
def J_precentorlaw25_TraceCauses_0 (P : Program) (call : FuncId → List AVal → Heap → Res AVal) (fuel : Nat) (k : Kn (AVal)) (t : T) (h : Heap) : Res (AVal) :=
arb (.call F_precentorlaw25_known [] h) call fun v_8 h9 =>
arb (.val v_8 h9) call fun v_10 h11 =>
k .ret (upd (upd t 194 v_8) 2 v_10) h11

def J_precentorlaw25_TraceCauses_3 (P : Program) (call : FuncId → List AVal → Heap → Res AVal) (fuel : Nat) (k : Kn (Ex × T)) (t : T) (h : Heap) : Res (Ex × T) :=
arb (.val (t 4) h) call fun v_16 h17 =>
arb (.of (aBin P .add 3 (.tmp 20) (.const (.int .i64 1)) v_16 (.int .i64 1)) h17) call fun v_18 h19 =>
arb (.val v_18 h19) call fun i_20 h21 =>
k .normal (upd (upd (upd t 20 v_16) 21 v_18) 4 i_20) h21

def J_precentorlaw25_TraceCauses_10 (P : Program) (call : FuncId → List AVal → Heap → Res AVal) (fuel : Nat) (k : Kn (Ex × T)) (t : T) (h : Heap) : Res (Ex × T) :=
arb (.val (t 11) h) call fun v_65 h66 =>
arb (.of (aBin P .add 3 (.tmp 129) (.const (.int .i64 1)) v_65 (.int .i64 1)) h66) call fun v_67 h68 =>
arb (.val v_67 h68) call fun k_69 h70 =>
k .normal (upd (upd (upd t 129 v_65) 130 v_67) 11 k_69) h70

def J_precentorlaw25_TraceCauses_14 (P : Program) (call : FuncId → List AVal → Heap → Res AVal) (fuel : Nat) (k : Kn (Ex × T)) (t : T) (h : Heap) : Res (Ex × T) :=
arb (.val (t 13) h) call fun v_90 h91 =>
arb (.of (aBin P .add 3 (.tmp 185) (.const (.int .i64 1)) v_90 (.int .i64 1)) h91) call fun v_92 h93 =>
arb (.val v_92 h93) call fun j_94 h95 =>
k .normal (upd (upd (upd t 185 v_90) 186 v_92) 13 j_94) h95

def J_precentorlaw25_TraceCauses_13 (P : Program) (call : FuncId → List AVal → Heap → Res AVal) (fuel : Nat) (k : Kn (Ex × T)) (t : T) (h : Heap) : Res (Ex × T) :=
lt (sqK (J_precentorlaw25_TraceCauses_14 P call fuel k) k) fun k96 =>
lt (blkK 9 k96) fun k97 =>
arb (.val (t 8) h) call fun v_98 h99 =>
arb (.val (t 12) h99) call fun v_100 h101 =>
arb (.val (t 13) h101) call fun v_102 h103 =>
arb (.of (ixsR 2 v_100 v_102) h103) call fun v_104 h105 =>
arb (.of (ldn 2 h105 v_104) h105) call fun v_106 h107 =>
arb (.call F_precentorlaw25_at [v_98, v_106] h107) call fun v_108 h109 =>
arb (.of (aBin P .lss 3 (.tmp 192) (.const (.int .i64 0)) v_108 (.int .i64 0)) h109) call fun v_110 h111 =>
cb v_110 (
arb (.val (.bool false) h111) call fun v_112 h113 =>
k97 .ret (upd (upd (upd (upd (upd (upd (upd (upd t 187 v_98) 188 v_100) 189 v_102) 190 v_104) 191 v_106) 192 v_108) 193 v_110) 2 v_112) h113) (
k97 .normal (upd (upd (upd (upd (upd (upd (upd t 187 v_98) 188 v_100) 189 v_102) 190 v_104) 191 v_106) 192 v_108) 193 v_110) h111)

def L_precentorlaw25_TraceCauses_12 (P : Program) (call : FuncId → List AVal → Heap → Res AVal) (fuel : Nat) (t : T) (h : Heap) : Res (Ex × T) :=
lt okK fun k =>
lt (sqK (J_precentorlaw25_TraceCauses_13 P call fuel k) k) fun k114 =>
arb (.val (t 13) h) call fun v_115 h116 =>
arb (.val (t 12) h116) call fun v_117 h118 =>
arb (.of (lenL v_117) h118) call fun v_119 h120 =>
arb (.of (aBin P .lss 3 (.tmp 181) (.tmp 183) v_115 v_119) h120) call fun v_121 h122 =>
cb v_121 (
k114 .normal (upd (upd (upd (upd t 181 v_115) 182 v_117) 183 v_119) 184 v_121) h122) (
k114 (.exit 8) (upd (upd (upd (upd t 181 v_115) 182 v_117) 183 v_119) 184 v_121) h122)

def J_precentorlaw25_TraceCauses_11 (P : Program) (call : FuncId → List AVal → Heap → Res AVal) (fuel : Nat) (k : Kn (Ex × T)) (t : T) (h : Heap) : Res (Ex × T) :=
arb (.val (t 3) h) call fun v_73 h74 =>
arb (.val (t 8) h74) call fun v_75 h76 =>
arb (.val (t 11) h76) call fun v_77 h78 =>
arb (.of (ixsR 2 v_75 v_77) h78) call fun v_79 h80 =>
arb (.of (ldn 2 h80 v_79) h80) call fun v_81 h82 =>
arb (.call F_trace_Causes [v_73, v_81] h82) call fun v_83 h84 =>
arb (.val v_83 h84) call fun d_85 h86 =>
arb (.val (.int .i64 0) h86) call fun j_87 h88 =>
lt (blkK 8 k) fun k89 =>
(loopN (L_precentorlaw25_TraceCauses_12 P call fuel) fuel (upd (upd (upd (upd (upd (upd (upd (upd t 175 v_73) 176 v_75) 177 v_77) 178 v_79) 179 v_81) 180 v_83) 12 d_85) 13 j_87) h88).bind (lpK k89)

def J_precentorlaw25_TraceCauses_9 (P : Program) (call : FuncId → List AVal → Heap → Res AVal) (fuel : Nat) (k : Kn (Ex × T)) (t : T) (h : Heap) : Res (Ex × T) :=
lt (sqK (J_precentorlaw25_TraceCauses_10 P call fuel k) k) fun k71 =>
lt (blkK 7 k71) fun k72 =>
lt (sqK (J_precentorlaw25_TraceCauses_11 P call fuel k72) k72) fun k123 =>
obv (.val (t 11) h) fun v_124 =>
obv (.of (aBin P .gtr 3 (.tmp 131) (.const (.int .i64 0)) v_124 (.int .i64 0)) h) fun v_125 =>
obv (.val v_125 h) fun v_126 =>
gd (wantB v_126 true) (fun c => obv (.val (t 8) h) fun v => c v h) h fun v_127 h128 =>
gd (wantB v_126 true) (fun c => obv (.val (t 11) h128) fun v => c v h128) h128 fun v_129 h130 =>
gd (wantB v_126 true) (fun c => obv (.of (aBin P .sub 3 (.tmp 135) (.const (.int .i64 1)) v_129 (.int .i64 1)) h130) fun v => c v h130) h130 fun v_131 h132 =>
gd (wantB v_126 true) (fun c => obv (.of (ixsR 2 v_127 v_131) h132) fun v => c v h132) h132 fun v_133 h134 =>
gd (wantB v_126 true) (fun c => obv (.of (fadR 0 v_133) h134) fun v => c v h134) h134 fun v_135 h136 =>
gd (wantB v_126 true) (fun c => obv (.of (ld1 h136 v_135) h136) fun v => c v h136) h136 fun v_137 h138 =>
gd (wantB v_126 true) (fun c => obv (.val (t 8) h138) fun v => c v h138) h138 fun v_139 h140 =>
gd (wantB v_126 true) (fun c => obv (.val (t 11) h140) fun v => c v h140) h140 fun v_141 h142 =>
gd (wantB v_126 true) (fun c => obv (.of (ixsR 2 v_139 v_141) h142) fun v => c v h142) h142 fun v_143 h144 =>
gd (wantB v_126 true) (fun c => obv (.of (fadR 0 v_143) h144) fun v => c v h144) h144 fun v_145 h146 =>
gd (wantB v_126 true) (fun c => obv (.of (ld1 h146 v_145) h146) fun v => c v h146) h146 fun v_147 h148 =>
gd (wantB v_126 true) (fun c => obv (.of (aBin P .gtr 3 (.tmp 139) (.tmp 144) v_137 v_147) h148) fun v => c v h148) h148 fun v_149 h150 =>
gd (wantB v_126 true) (fun c => obv (.val v_149 h150) fun v => c v h150) h150 fun v_151 h152 =>
gd (wantB v_151 false) (fun c => obv (.val (t 8) h152) fun v => c v h152) h152 fun v_153 h154 =>
gd (wantB v_151 false) (fun c => obv (.val (t 11) h154) fun v => c v h154) h154 fun v_155 h156 =>
gd (wantB v_151 false) (fun c => obv (.of (aBin P .sub 3 (.tmp 148) (.const (.int .i64 1)) v_155 (.int .i64 1)) h156) fun v => c v h156) h156 fun v_157 h158 =>
gd (wantB v_151 false) (fun c => obv (.of (ixsR 2 v_153 v_157) h158) fun v => c v h158) h158 fun v_159 h160 =>
gd (wantB v_151 false) (fun c => obv (.of (fadR 0 v_159) h160) fun v => c v h160) h160 fun v_161 h162 =>
gd (wantB v_151 false) (fun c => obv (.of (ld1 h162 v_161) h162) fun v => c v h162) h162 fun v_163 h164 =>
gd (wantB v_151 false) (fun c => obv (.val (t 8) h164) fun v => c v h164) h164 fun v_165 h166 =>
gd (wantB v_151 false) (fun c => obv (.val (t 11) h166) fun v => c v h166) h166 fun v_167 h168 =>
gd (wantB v_151 false) (fun c => obv (.of (ixsR 2 v_165 v_167) h168) fun v => c v h168) h168 fun v_169 h170 =>
gd (wantB v_151 false) (fun c => obv (.of (fadR 0 v_169) h170) fun v => c v h170) h170 fun v_171 h172 =>
gd (wantB v_151 false) (fun c => obv (.of (ld1 h172 v_171) h172) fun v => c v h172) h172 fun v_173 h174 =>
gd (wantB v_151 false) (fun c => obv (.of (aBin P .eql 3 (.tmp 152) (.tmp 157) v_163 v_173) h174) fun v => c v h174) h174 fun v_175 h176 =>
gd (wantB v_151 false) (fun c => obv (.val v_175 h176) fun v => c v h176) h176 fun v_177 h178 =>
gd (wantB v_177 true) (fun c => obv (.val (t 8) h178) fun v => c v h178) h178 fun v_179 h180 =>
gd (wantB v_177 true) (fun c => obv (.val (t 11) h180) fun v => c v h180) h180 fun v_181 h182 =>
gd (wantB v_177 true) (fun c => obv (.of (aBin P .sub 3 (.tmp 161) (.const (.int .i64 1)) v_181 (.int .i64 1)) h182) fun v => c v h182) h182 fun v_183 h184 =>
gd (wantB v_177 true) (fun c => obv (.of (ixsR 2 v_179 v_183) h184) fun v => c v h184) h184 fun v_185 h186 =>
gd (wantB v_177 true) (fun c => obv (.of (fadR 1 v_185) h186) fun v => c v h186) h186 fun v_187 h188 =>
gd (wantB v_177 true) (fun c => obv (.of (ld1 h188 v_187) h188) fun v => c v h188) h188 fun v_189 h190 =>
gd (wantB v_177 true) (fun c => obv (.val (t 8) h190) fun v => c v h190) h190 fun v_191 h192 =>
gd (wantB v_177 true) (fun c => obv (.val (t 11) h192) fun v => c v h192) h192 fun v_193 h194 =>
gd (wantB v_177 true) (fun c => obv (.of (ixsR 2 v_191 v_193) h194) fun v => c v h194) h194 fun v_195 h196 =>
gd (wantB v_177 true) (fun c => obv (.of (fadR 1 v_195) h196) fun v => c v h196) h196 fun v_197 h198 =>
gd (wantB v_177 true) (fun c => obv (.of (ld1 h198 v_197) h198) fun v => c v h198) h198 fun v_199 h200 =>
gd (wantB v_177 true) (fun c => obv (.of (aBin P .geq 3 (.tmp 165) (.tmp 170) v_189 v_199) h200) fun v => c v h200) h200 fun v_201 h202 =>
gd (wantB v_151 false) (fun c => obv (pkR v_177 v_201 (.bool false) h202) fun v => c v h202) h202 fun v_203 h204 =>
gd (wantB v_126 true) (fun c => obv (pkR v_151 (.bool true) v_203 h204) fun v => c v h204) h204 fun v_205 h206 =>
obv (pkR v_126 v_205 (.bool false) h206) fun v_207 =>
cb v_207 (
arb (.val (.bool false) h206) call fun v_208 h209 =>
k123 .ret (upd (upd (upd (upd (upd (upd (upd (upd (upd (upd (upd (upd (upd (upd (upd (upd (upd (upd (upd (upd (upd (upd (upd (upd (upd (upd (upd (upd (upd (upd (upd (upd (upd (upd (upd (upd (upd (upd (upd (upd (upd (upd (upd (upd (upd t 131 v_124) 132 v_125) 133 v_126) 134 v_127) 135 v_129) 136 v_131) 137 v_133) 138 v_135) 139 v_137) 140 v_139) 141 v_141) 142 v_143) 143 v_145) 144 v_147) 145 v_149) 146 v_151) 147 v_153) 148 v_155) 149 v_157) 150 v_159) 151 v_161) 152 v_163) 153 v_165) 154 v_167) 155 v_169) 156 v_171) 157 v_173) 158 v_175) 159 v_177) 160 v_179) 161 v_181) 162 v_183) 163 v_185) 164 v_187) 165 v_189) 166 v_191) 167 v_193) 168 v_195) 169 v_197) 170 v_199) 171 v_201) 172 v_203) 173 v_205) 174 v_207) 2 v_208) h209) (
k123 .normal (upd (upd (upd (upd (upd (upd (upd (upd (upd (upd (upd (upd (upd (upd (upd (upd (upd (upd (upd (upd (upd (upd (upd (upd (upd (upd (upd (upd (upd (upd (upd (upd (upd (upd (upd (upd (upd (upd (upd (upd (upd (upd (upd (upd t 131 v_124) 132 v_125) 133 v_126) 134 v_127) 135 v_129) 136 v_131) 137 v_133) 138 v_135) 139 v_137) 140 v_139) 141 v_141) 142 v_143) 143 v_145) 144 v_147) 145 v_149) 146 v_151) 147 v_153) 148 v_155) 149 v_157) 150 v_159) 151 v_161) 152 v_163) 153 v_165) 154 v_167) 155 v_169) 156 v_171) 157 v_173) 158 v_175) 159 v_177) 160 v_179) 161 v_181) 162 v_183) 163 v_185) 164 v_187) 165 v_189) 166 v_191) 167 v_193) 168 v_195) 169 v_197) 170 v_199) 171 v_201) 172 v_203) 173 v_205) 174 v_207) h206)

def L_precentorlaw25_TraceCauses_8 (P : Program) (call : FuncId → List AVal → Heap → Res AVal) (fuel : Nat) (t : T) (h : Heap) : Res (Ex × T) :=
lt okK fun k =>
lt (sqK (J_precentorlaw25_TraceCauses_9 P call fuel k) k) fun k210 =>
arb (.val (t 11) h) call fun v_211 h212 =>
arb (.val (t 8) h212) call fun v_213 h214 =>
arb (.of (lenL v_213) h214) call fun v_215 h216 =>
arb (.of (aBin P .lss 3 (.tmp 125) (.tmp 127) v_211 v_215) h216) call fun v_217 h218 =>
cb v_217 (
k210 .normal (upd (upd (upd (upd t 125 v_211) 126 v_213) 127 v_215) 128 v_217) h218) (
k210 (.exit 6) (upd (upd (upd (upd t 125 v_211) 126 v_213) 127 v_215) 128 v_217) h218)

def J_precentorlaw25_TraceCauses_7 (P : Program) (call : FuncId → List AVal → Heap → Res AVal) (fuel : Nat) (k : Kn (Ex × T)) (t : T) (h : Heap) : Res (Ex × T) :=
arb (.val (.int .i64 0) h) call fun k_62 h63 =>
lt (blkK 6 k) fun k64 =>
(loopN (L_precentorlaw25_TraceCauses_8 P call fuel) fuel (upd t 11 k_62) h63).bind (lpK k64)

def J_precentorlaw25_TraceCauses_17 (P : Program) (call : FuncId → List AVal → Heap → Res AVal) (fuel : Nat) (k : Kn (Ex × T)) (t : T) (h : Heap) : Res (Ex × T) :=
arb (.val (t 9) h) call fun v_223 h224 =>
arb (.of (aBin P .add 3 (.tmp 84) (.const (.int .i64 1)) v_223 (.int .i64 1)) h224) call fun v_225 h226 =>
arb (.val v_225 h226) call fun k_227 h228 =>
k .normal (upd (upd (upd t 84 v_223) 85 v_225) 9 k_227) h228

def J_precentorlaw25_TraceCauses_18 (P : Program) (call : FuncId → List AVal → Heap → Res AVal) (fuel : Nat) (k : Kn (Ex × T)) (t : T) (h : Heap) : Res (Ex × T) :=
obv (.val (t 3) h) fun v_257 =>
obv (.val (t 9) h) fun v_259 =>
obv (.of (ixsR 4 v_257 v_259) h) fun v_261 =>
obv (.of (fadR 1 v_261) h) fun v_263 =>
obv (.of (ld1 h v_263) h) fun v_265 => ifb true <|
obv (.val (t 3) h) fun v_267 =>
obv (.val (t 4) h) fun v_269 =>
obv (.of (ixsR 4 v_267 v_269) h) fun v_271 =>
obv (.of (fadR 1 v_271) h) fun v_273 =>
obv (.of (ld1 h v_273) h) fun v_275 => ifb true <|
obv (.of (aBin P .eql 3 (.tmp 112) (.tmp 117) v_265 v_275) h) fun v_277 =>
obv (.val v_277 h) fun v_279 =>
gdr (wantB v_279 true) (fun c => obv (.val (t 8) h) fun v_281 =>
c true v_281 h) h fun w283 v_281 h283 =>
gdr (wantB v_279 true) (fun c => obv (.of (ldn 2 h283 (t 10)) h283) fun v_284 => ifb true <|
c true v_284 h283) h283 fun w286 v_284 h286 =>
gdr (wantB v_279 true) (fun c => arbE (.call F_precentorlaw25_at [v_281, v_284] h286) call fun v_287 h288 => lt h288 fun g288 => ifb (true && true) <|
c true v_287 g288) h286 fun w289 v_287 h289 =>
gdr (wantB v_279 true) (fun c => obv (.of (aBin P .lss 3 (.tmp 122) (.const (.int .i64 0)) v_287 (.int .i64 0)) h289) fun v_290 =>
c true v_290 h289) h289 fun w292 v_290 h292 =>
obv (pkR v_279 v_290 (.bool false) h292) fun v_293 =>
cb v_293 (
arb (.val (.bool false) h292) call fun v_295 h296 =>
k .ret (upd (upd (upd (upd (upd (upd (upd (upd (upd (upd (upd (upd (upd (upd (upd (upd (upd (upd t 108 v_257) 109 v_259) 110 v_261) 111 v_263) 112 v_265) 113 v_267) 114 v_269) 115 v_271) 116 v_273) 117 v_275) 118 v_277) 119 v_279) 120 v_281) 121 v_284) 122 v_287) 123 v_290) 124 v_293) 2 v_295) h296) (
k .normal (upd (upd (upd (upd (upd (upd (upd (upd (upd (upd (upd (upd (upd (upd (upd (upd (upd t 108 v_257) 109 v_259) 110 v_261) 111 v_263) 112 v_265) 113 v_267) 114 v_269) 115 v_271) 116 v_273) 117 v_275) 118 v_277) 119 v_279) 120 v_281) 121 v_284) 122 v_287) 123 v_290) 124 v_293) h292)

def J_precentorlaw25_TraceCauses_16 (P : Program) (call : FuncId → List AVal → Heap → Res AVal) (fuel : Nat) (k : Kn (Ex × T)) (t : T) (h : Heap) : Res (Ex × T) :=
lt (sqK (J_precentorlaw25_TraceCauses_17 P call fuel k) k) fun k229 =>
lt (blkK 5 k229) fun k230 =>
obv (.val (t 3) h) fun v_231 =>
obv (.val (t 9) h) fun v_233 =>
obv (.of (ixsR 4 v_231 v_233) h) fun v_235 =>
obv (.of (fadR 2 v_235) h) fun v_237 =>
obv (.of (ld1 h v_237) h) fun v_239 => ifb true <|
obv (.val (t 3) h) fun v_241 =>
obv (.val (t 9) h) fun v_243 =>
obv (.of (ixsR 4 v_241 v_243) h) fun v_245 =>
obv (.of (fadR 3 v_245) h) fun v_247 =>
obv (.of (ld1 h v_247) h) fun v_249 => ifb true <|
obv (.of (bldR [(.int .i64 0), (.int .i64 0)] [(0, 1, v_239), (1, 1, v_249)]) h) fun v_251 =>
arbV (newR [(.int .i64 0), (.int .i64 0)] h) fun y_253 h254 =>
arbE (stR 2 h254 y_253 v_251) call fun v_255 h256 => lt h256 fun g256 => ifb (true && true) <|
lt (sqK (J_precentorlaw25_TraceCauses_18 P call fuel k230) k230) fun k297 =>
arb (.val (t 3) g256) call fun v_298 h299 =>
arb (.val (t 9) h299) call fun v_300 h301 =>
arb (.of (ixsR 4 v_298 v_300) h301) call fun v_302 h303 =>
arb (.of (fadR 0 v_302) h303) call fun v_304 h305 =>
arb (.of (ld1 h305 v_304) h305) call fun v_306 h307 =>
cb v_306 (
arb (.val (t 3) h307) call fun v_308 h309 =>
arb (.val (t 9) h309) call fun v_310 h311 =>
arb (.of (ixsR 4 v_308 v_310) h311) call fun v_312 h313 =>
arb (.of (fadR 1 v_312) h313) call fun v_314 h315 =>
arb (.of (ld1 h315 v_314) h315) call fun v_316 h317 =>
arb (.of (fadR 0 y_253) h317) call fun v_318 h319 =>
arb (stR 1 h319 v_318 v_316) call fun v_320 h321 =>
k297 .normal (upd (upd (upd (upd (upd (upd (upd (upd (upd (upd (upd (upd (upd (upd (upd (upd (upd (upd (upd (upd (upd (upd (upd t 86 v_231) 87 v_233) 88 v_235) 89 v_237) 90 v_239) 91 v_241) 92 v_243) 93 v_245) 94 v_247) 95 v_249) 96 v_251) 10 y_253) 97 v_298) 98 v_300) 99 v_302) 100 v_304) 101 v_306) 102 v_308) 103 v_310) 104 v_312) 105 v_314) 106 v_316) 107 v_318) h321) (
k297 .normal (upd (upd (upd (upd (upd (upd (upd (upd (upd (upd (upd (upd (upd (upd (upd (upd (upd t 86 v_231) 87 v_233) 88 v_235) 89 v_237) 90 v_239) 91 v_241) 92 v_243) 93 v_245) 94 v_247) 95 v_249) 96 v_251) 10 y_253) 97 v_298) 98 v_300) 99 v_302) 100 v_304) 101 v_306) h307)

def L_precentorlaw25_TraceCauses_15 (P : Program) (call : FuncId → List AVal → Heap → Res AVal) (fuel : Nat) (t : T) (h : Heap) : Res (Ex × T) :=
lt okK fun k =>
lt (sqK (J_precentorlaw25_TraceCauses_16 P call fuel k) k) fun k322 =>
arb (.val (t 9) h) call fun v_323 h324 =>
arb (.val (t 4) h324) call fun v_325 h326 =>
arb (.of (aBin P .lss 3 (.tmp 81) (.tmp 82) v_323 v_325) h326) call fun v_327 h328 =>
cb v_327 (
k322 .normal (upd (upd (upd t 81 v_323) 82 v_325) 83 v_327) h328) (
k322 (.exit 4) (upd (upd (upd t 81 v_323) 82 v_325) 83 v_327) h328)

def J_precentorlaw25_TraceCauses_6 (P : Program) (call : FuncId → List AVal → Heap → Res AVal) (fuel : Nat) (k : Kn (Ex × T)) (t : T) (h : Heap) : Res (Ex × T) :=
arb (.val (t 3) h) call fun v_54 h55 =>
arb (.of (ldn 2 h55 (t 5)) h55) call fun v_56 h57 =>
arb (.call F_trace_Causes [v_54, v_56] h57) call fun v_58 h59 =>
arb (.val v_58 h59) call fun c_60 h61 =>
lt (sqK (J_precentorlaw25_TraceCauses_7 P call fuel k) k) fun k219 =>
arb (.val (.int .i64 0) h61) call fun k_220 h221 =>
lt (blkK 4 k219) fun k222 =>
(loopN (L_precentorlaw25_TraceCauses_15 P call fuel) fuel (upd (upd (upd (upd (upd t 78 v_54) 79 v_56) 80 v_58) 8 c_60) 9 k_220) h221).bind (lpK k222)

def J_precentorlaw25_TraceCauses_5 (P : Program) (call : FuncId → List AVal → Heap → Res AVal) (fuel : Nat) (k : Kn (Ex × T)) (t : T) (h : Heap) : Res (Ex × T) :=
lt (sqK (J_precentorlaw25_TraceCauses_6 P call fuel k) k) fun k329 =>
arb (.val (t 6) h) call fun v_330 h331 =>
arb (.of (aBin P .lss 3 (.tmp 76) (.const (.int .i64 0)) v_330 (.int .i64 0)) h331) call fun v_332 h333 =>
cb v_332 (
k329 (.exit 1) (upd (upd t 76 v_330) 77 v_332) h333) (
k329 .normal (upd (upd t 76 v_330) 77 v_332) h333)

def J_precentorlaw25_TraceCauses_21 (P : Program) (call : FuncId → List AVal → Heap → Res AVal) (fuel : Nat) (k : Kn (Ex × T)) (t : T) (h : Heap) : Res (Ex × T) :=
arb (.val (t 7) h) call fun v_338 h339 =>
arb (.of (aBin P .add 3 (.tmp 43) (.const (.int .i64 1)) v_338 (.int .i64 1)) h339) call fun v_340 h341 =>
arb (.val v_340 h341) call fun k_342 h343 =>
k .normal (upd (upd (upd t 43 v_338) 44 v_340) 7 k_342) h343

def J_precentorlaw25_TraceCauses_20 (P : Program) (call : FuncId → List AVal → Heap → Res AVal) (fuel : Nat) (k : Kn (Ex × T)) (t : T) (h : Heap) : Res (Ex × T) :=
lt (sqK (J_precentorlaw25_TraceCauses_21 P call fuel k) k) fun k344 =>
lt (blkK 3 k344) fun k345 =>
obv (.val (t 3) h) fun v_346 =>
obv (.val (t 7) h) fun v_347 =>
obv (.of (ixsR 4 v_346 v_347) h) fun v_348 =>
obv (.of (fadR 0 v_348) h) fun v_349 =>
obv (.of (ld1 h v_349) h) fun v_350 =>
obv (.val v_350 h) fun v_351 =>
gd (wantB v_351 true) (fun c => obv (.val (t 3) h) fun v => c v h) h fun v_352 h353 =>
gd (wantB v_351 true) (fun c => obv (.val (t 7) h353) fun v => c v h353) h353 fun v_354 h355 =>
gd (wantB v_351 true) (fun c => obv (.of (ixsR 4 v_352 v_354) h355) fun v => c v h355) h355 fun v_356 h357 =>
gd (wantB v_351 true) (fun c => obv (.of (fadR 1 v_356) h357) fun v => c v h357) h357 fun v_358 h359 =>
gd (wantB v_351 true) (fun c => obv (.of (ld1 h359 v_358) h359) fun v => c v h359) h359 fun v_360 h361 =>
gd (wantB v_351 true) (fun c => obv (.val (t 3) h361) fun v => c v h361) h361 fun v_362 h363 =>
gd (wantB v_351 true) (fun c => obv (.val (t 4) h363) fun v => c v h363) h363 fun v_364 h365 =>
gd (wantB v_351 true) (fun c => obv (.of (ixsR 4 v_362 v_364) h365) fun v => c v h365) h365 fun v_366 h367 =>
gd (wantB v_351 true) (fun c => obv (.of (fadR 1 v_366) h367) fun v => c v h367) h367 fun v_368 h369 =>
gd (wantB v_351 true) (fun c => obv (.of (ld1 h369 v_368) h369) fun v => c v h369) h369 fun v_370 h371 =>
gd (wantB v_351 true) (fun c => obv (.of (aBin P .eql 3 (.tmp 55) (.tmp 60) v_360 v_370) h371) fun v => c v h371) h371 fun v_372 h373 =>
obv (pkR v_351 v_372 (.bool false) h373) fun v_374 =>
obv (.val v_374 h373) fun v_375 =>
gd (wantB v_375 true) (fun c => obv (.val (t 3) h373) fun v => c v h373) h373 fun v_376 h377 =>
gd (wantB v_375 true) (fun c => obv (.val (t 7) h377) fun v => c v h377) h377 fun v_378 h379 =>
gd (wantB v_375 true) (fun c => obv (.of (ixsR 4 v_376 v_378) h379) fun v => c v h379) h379 fun v_380 h381 =>
gd (wantB v_375 true) (fun c => obv (.of (fadR 3 v_380) h381) fun v => c v h381) h381 fun v_382 h383 =>
gd (wantB v_375 true) (fun c => obv (.of (ld1 h383 v_382) h383) fun v => c v h383) h383 fun v_384 h385 =>
gd (wantB v_375 true) (fun c => obv (.val (t 3) h385) fun v => c v h385) h385 fun v_386 h387 =>
gd (wantB v_375 true) (fun c => obv (.val (t 4) h387) fun v => c v h387) h387 fun v_388 h389 =>
gd (wantB v_375 true) (fun c => obv (.of (ixsR 4 v_386 v_388) h389) fun v => c v h389) h389 fun v_390 h391 =>
gd (wantB v_375 true) (fun c => obv (.of (fadR 3 v_390) h391) fun v => c v h391) h391 fun v_392 h393 =>
gd (wantB v_375 true) (fun c => obv (.of (ld1 h393 v_392) h393) fun v => c v h393) h393 fun v_394 h395 =>
gd (wantB v_375 true) (fun c => obv (.of (aBin P .eql 3 (.tmp 68) (.tmp 73) v_384 v_394) h395) fun v => c v h395) h395 fun v_396 h397 =>
obv (pkR v_375 v_396 (.bool false) h397) fun v_398 =>
cb v_398 (
arb (.val (.int .i64 (-1)) h397) call fun first_399 h400 =>
k345 .normal (upd (upd (upd (upd (upd (upd (upd (upd (upd (upd (upd (upd (upd (upd (upd (upd (upd (upd (upd (upd (upd (upd (upd (upd (upd (upd (upd (upd (upd (upd (upd (upd t 45 v_346) 46 v_347) 47 v_348) 48 v_349) 49 v_350) 50 v_351) 51 v_352) 52 v_354) 53 v_356) 54 v_358) 55 v_360) 56 v_362) 57 v_364) 58 v_366) 59 v_368) 60 v_370) 61 v_372) 62 v_374) 63 v_375) 64 v_376) 65 v_378) 66 v_380) 67 v_382) 68 v_384) 69 v_386) 70 v_388) 71 v_390) 72 v_392) 73 v_394) 74 v_396) 75 v_398) 6 first_399) h400) (
k345 .normal (upd (upd (upd (upd (upd (upd (upd (upd (upd (upd (upd (upd (upd (upd (upd (upd (upd (upd (upd (upd (upd (upd (upd (upd (upd (upd (upd (upd (upd (upd (upd t 45 v_346) 46 v_347) 47 v_348) 48 v_349) 49 v_350) 50 v_351) 51 v_352) 52 v_354) 53 v_356) 54 v_358) 55 v_360) 56 v_362) 57 v_364) 58 v_366) 59 v_368) 60 v_370) 61 v_372) 62 v_374) 63 v_375) 64 v_376) 65 v_378) 66 v_380) 67 v_382) 68 v_384) 69 v_386) 70 v_388) 71 v_390) 72 v_392) 73 v_394) 74 v_396) 75 v_398) h397)

def L_precentorlaw25_TraceCauses_19 (P : Program) (call : FuncId → List AVal → Heap → Res AVal) (fuel : Nat) (t : T) (h : Heap) : Res (Ex × T) :=
lt okK fun k =>
lt (sqK (J_precentorlaw25_TraceCauses_20 P call fuel k) k) fun k401 =>
arb (.val (t 7) h) call fun v_402 h403 =>
arb (.val (t 4) h403) call fun v_404 h405 =>
arb (.of (aBin P .lss 3 (.tmp 40) (.tmp 41) v_402 v_404) h405) call fun v_406 h407 =>
cb v_406 (
k401 .normal (upd (upd (upd t 40 v_402) 41 v_404) 42 v_406) h407) (
k401 (.exit 2) (upd (upd (upd t 40 v_402) 41 v_404) 42 v_406) h407)

def J_precentorlaw25_TraceCauses_4 (P : Program) (call : FuncId → List AVal → Heap → Res AVal) (fuel : Nat) (k : Kn (Ex × T)) (t : T) (h : Heap) : Res (Ex × T) :=
obv (.val (t 3) h) fun v_24 =>
obv (.val (t 4) h) fun v_26 =>
obv (.of (ixsR 4 v_24 v_26) h) fun v_28 =>
obv (.of (fadR 1 v_28) h) fun v_30 =>
obv (.of (ld1 h v_30) h) fun v_32 => ifb true <|
obv (.val (t 3) h) fun v_34 =>
obv (.val (t 4) h) fun v_36 =>
obv (.of (ixsR 4 v_34 v_36) h) fun v_38 =>
obv (.of (fadR 3 v_38) h) fun v_40 =>
obv (.of (ld1 h v_40) h) fun v_42 => ifb true <|
obv (.of (bldR [(.int .i64 0), (.int .i64 0)] [(0, 1, v_32), (1, 1, v_42)]) h) fun v_44 =>
arbV (newR [(.int .i64 0), (.int .i64 0)] h) fun x_46 h47 =>
arbE (stR 2 h47 x_46 v_44) call fun v_48 h49 => lt h49 fun g49 => ifb (true && true) <|
arb (.val (t 4) g49) call fun v_50 h51 =>
arb (.val v_50 h51) call fun first_52 h53 =>
lt (sqK (J_precentorlaw25_TraceCauses_5 P call fuel k) k) fun k334 =>
arb (.val (.int .i64 0) h53) call fun k_335 h336 =>
lt (blkK 2 k334) fun k337 =>
(loopN (L_precentorlaw25_TraceCauses_19 P call fuel) fuel (upd (upd (upd (upd (upd (upd (upd (upd (upd (upd (upd (upd (upd (upd (upd t 28 v_24) 29 v_26) 30 v_28) 31 v_30) 32 v_32) 33 v_34) 34 v_36) 35 v_38) 36 v_40) 37 v_42) 38 v_44) 5 x_46) 39 v_50) 6 first_52) 7 k_335) h336).bind (lpK k337)

def J_precentorlaw25_TraceCauses_2 (P : Program) (call : FuncId → List AVal → Heap → Res AVal) (fuel : Nat) (k : Kn (Ex × T)) (t : T) (h : Heap) : Res (Ex × T) :=
lt (sqK (J_precentorlaw25_TraceCauses_3 P call fuel k) k) fun k22 =>
lt (blkK 1 k22) fun k23 =>
lt (sqK (J_precentorlaw25_TraceCauses_4 P call fuel k23) k23) fun k408 =>
arb (.val (t 3) h) call fun v_409 h410 =>
arb (.val (t 4) h410) call fun v_411 h412 =>
arb (.of (ixsR 4 v_409 v_411) h412) call fun v_413 h414 =>
arb (.of (fadR 0 v_413) h414) call fun v_415 h416 =>
arb (.of (ld1 h416 v_415) h416) call fun v_417 h418 =>
arb (.of (aUn P .not v_417) h418) call fun v_419 h420 =>
cb v_419 (
k408 (.exit 1) (upd (upd (upd (upd (upd (upd t 22 v_409) 23 v_411) 24 v_413) 25 v_415) 26 v_417) 27 v_419) h420) (
k408 .normal (upd (upd (upd (upd (upd (upd t 22 v_409) 23 v_411) 24 v_413) 25 v_415) 26 v_417) 27 v_419) h420)

def L_precentorlaw25_TraceCauses_1 (P : Program) (call : FuncId → List AVal → Heap → Res AVal) (fuel : Nat) (t : T) (h : Heap) : Res (Ex × T) :=
lt okK fun k =>
lt (sqK (J_precentorlaw25_TraceCauses_2 P call fuel k) k) fun k421 =>
arb (.val (t 4) h) call fun v_422 h423 =>
arb (.val (t 3) h423) call fun v_424 h425 =>
arb (.of (lenL v_424) h425) call fun v_426 h427 =>
arb (.of (aBin P .lss 3 (.tmp 16) (.tmp 18) v_422 v_426) h427) call fun v_428 h429 =>
cb v_428 (
k421 .normal (upd (upd (upd (upd t 16 v_422) 17 v_424) 18 v_426) 19 v_428) h429) (
k421 (.exit 0) (upd (upd (upd (upd t 16 v_422) 17 v_424) 18 v_426) 19 v_428) h429)

def S_precentorlaw25_TraceCauses (P : Program) (call : FuncId → List AVal → Heap → Res AVal) (fuel : Nat) (l_a0 : AVal) (h : Heap) : Res AVal :=
lt (retK P [.tmp 2]) fun k =>
arb (.val (.bool false) h) call fun v_0 h1 =>
arb (.val l_a0 h1) call fun v_2 h3 =>
arb (.call F_precentorlaw25_marks [v_2, .nils, (.bool false)] h3) call fun v_4 h5 =>
arb (.val v_4 h5) call fun m_6 h7 =>
lt (sqK (J_precentorlaw25_TraceCauses_0 P call fuel k) k) fun k12 =>
arb (.val (.int .i64 0) h7) call fun i_13 h14 =>
lt (blkK 0 k12) fun k15 =>
(loopN (L_precentorlaw25_TraceCauses_1 P call fuel) fuel (upd (upd (upd (upd (upd (enterT [l_a0]) 2 v_0) 14 v_2) 15 v_4) 3 m_6) 4 i_13) h14).bind (lpK k15)
theorem E_precentorlaw25_TraceCauses (call : FuncId → List AVal → Heap → Res AVal) (fuel : Nat) (l_a0 : AVal) (h : Heap) : bodyR Try.prog call fuel Try.f6 [l_a0] h = S_precentorlaw25_TraceCauses Try.prog call fuel l_a0 h := by kernel_rfl
theorem R_precentorlaw25_TraceCauses {X : XTab} (l_a0 : AVal) {h : Heap} {Q : AVal → Heap → Prop} (hx : X F_precentorlaw25_TraceCauses [l_a0] = none) (q : Tells (fun m => S_precentorlaw25_TraceCauses Try.prog (acallX Try.prog X m) m l_a0 h) Q) :
    Tells (fun m => acallX Try.prog X m F_precentorlaw25_TraceCauses [l_a0] h) Q :=
  Tells.later (q.le fun m => (E_precentorlaw25_TraceCauses (acallX Try.prog X m) m l_a0 h) ▸ acallX_le Try.func6 hx m h)

/-! ### precentor/precentorlaw25.TraceCuts -/
def J_precentorlaw25_TraceCuts_0 (P : Program) (call : FuncId → List AVal → Heap → Res AVal) (fuel : Nat) (k : Kn (AVal)) (t : T) (h : Heap) : Res (AVal) :=
arb (.val (t 7) h) call fun v_30 h31 =>
arb (.call F_trace_Line [v_30] h31) call fun v_32 h33 =>
arb (.val v_32 h33) call fun v_34 h35 =>
arb (extR v_34 0 h35) call fun v_36 h37 =>
arb (extR v_34 1 h37) call fun v_38 h39 =>
arb (.val v_36 h39) call fun v_40 h41 =>
arb (.val v_38 h41) call fun all_42 h43 =>
arb (.val (t 9) h43) call fun v_44 h45 =>
arb (.call F_trace_Line [v_44] h45) call fun v_46 h47 =>
arb (.val v_46 h47) call fun v_48 h49 =>
arb (extR v_48 0 h49) call fun v_50 h51 =>
arb (extR v_48 1 h51) call fun v_52 h53 =>
arb (.val v_50 h53) call fun v_54 h55 =>
arb (.val v_52 h55) call fun part_56 h57 =>
arb (.call F_precentorlaw25_known [] h57) call fun v_58 h59 =>
arb (.val v_58 h59) call fun v_60 h61 =>
gd (wantB v_60 true) (fun c => arb (.val (t 7) h61) call c) h61 fun v_62 h63 =>
gd (wantB v_60 true) (fun c => arb (.call F_trace_Agree [v_62] h63) call c) h63 fun v_64 h65 =>
gd (wantB v_60 true) (fun c => arb (.of (aUn P .not v_64) h65) call c) h65 fun v_66 h67 =>
gd (wantB v_60 true) (fun c => arb (.val v_66 h67) call c) h67 fun v_68 h69 =>
gd (wantB v_68 false) (fun c => arb (.val (t 7) h69) call c) h69 fun v_70 h71 =>
gd (wantB v_68 false) (fun c => arb (.val (t 8) h71) call c) h71 fun v_72 h73 =>
gd (wantB v_68 false) (fun c => arb (.of (slcR 4 v_70 none (some v_72) none) h73) call c) h73 fun v_74 h75 =>
gd (wantB v_68 false) (fun c => arb (.call F_trace_Agree [v_74] h75) call c) h75 fun v_76 h77 =>
gd (wantB v_68 false) (fun c => arb (.val v_76 h77) call c) h77 fun v_78 h79 =>
gd (wantB v_78 true) (fun c => arb (.val (t 9) h79) call c) h79 fun v_80 h81 =>
gd (wantB v_78 true) (fun c => arb (.call F_trace_Agree [v_80] h81) call c) h81 fun v_82 h83 =>
gd (wantB v_68 false) (fun c => arb (pkR v_78 v_82 (.bool false) h83) call c) h83 fun v_84 h85 =>
gd (wantB v_60 true) (fun c => arb (pkR v_68 (.bool true) v_84 h85) call c) h85 fun v_86 h87 =>
arb (pkR v_60 v_86 (.bool false) h87) call fun v_88 h89 =>
arb (.val v_88 h89) call fun v_90 h91 =>
gd (wantB v_90 true) (fun c => arb (.val (t 7) h91) call c) h91 fun v_92 h93 =>
gd (wantB v_90 true) (fun c => arb (.call F_trace_Once [v_92] h93) call c) h93 fun v_94 h95 =>
gd (wantB v_90 true) (fun c => arb (.of (aUn P .not v_94) h95) call c) h95 fun v_96 h97 =>
gd (wantB v_90 true) (fun c => arb (.val v_96 h97) call c) h97 fun v_98 h99 =>
gd (wantB v_98 false) (fun c => arb (.val (t 7) h99) call c) h99 fun v_100 h101 =>
gd (wantB v_98 false) (fun c => arb (.val (t 8) h101) call c) h101 fun v_102 h103 =>
gd (wantB v_98 false) (fun c => arb (.of (slcR 4 v_100 none (some v_102) none) h103) call c) h103 fun v_104 h105 =>
gd (wantB v_98 false) (fun c => arb (.call F_trace_Once [v_104] h105) call c) h105 fun v_106 h107 =>
gd (wantB v_98 false) (fun c => arb (.val v_106 h107) call c) h107 fun v_108 h109 =>
gd (wantB v_108 true) (fun c => arb (.val (t 9) h109) call c) h109 fun v_110 h111 =>
gd (wantB v_108 true) (fun c => arb (.call F_trace_Once [v_110] h111) call c) h111 fun v_112 h113 =>
gd (wantB v_98 false) (fun c => arb (pkR v_108 v_112 (.bool false) h113) call c) h113 fun v_114 h115 =>
gd (wantB v_90 true) (fun c => arb (pkR v_98 (.bool true) v_114 h115) call c) h115 fun v_116 h117 =>
arb (pkR v_90 v_116 (.bool false) h117) call fun v_118 h119 =>
arb (.val v_118 h119) call fun v_120 h121 =>
gd (wantB v_120 true) (fun c => arb (.val all_42 h121) call c) h121 fun v_122 h123 =>
gd (wantB v_120 true) (fun c => arb (.of (aUn P .not v_122) h123) call c) h123 fun v_124 h125 =>
gd (wantB v_120 true) (fun c => arb (.val v_124 h125) call c) h125 fun v_126 h127 =>
gd (wantB v_126 false) (fun c => arb (.val part_56 h127) call c) h127 fun v_128 h129 =>
gd (wantB v_120 true) (fun c => arb (pkR v_126 (.bool true) v_128 h129) call c) h129 fun v_130 h131 =>
arb (pkR v_120 v_130 (.bool false) h131) call fun v_132 h133 =>
arb (.val v_132 h133) call fun v_134 h135 =>
k .ret (upd (upd (upd (upd (upd (upd (upd (upd (upd (upd (upd (upd (upd (upd (upd (upd (upd (upd (upd (upd (upd (upd (upd (upd (upd (upd (upd (upd (upd (upd (upd (upd (upd (upd (upd (upd (upd (upd (upd (upd (upd (upd (upd (upd (upd (upd (upd (upd (upd (upd (upd (upd (upd t 53 v_30) 54 v_32) 52 v_34) 55 v_36) 56 v_38) 11 v_40) 12 all_42) 58 v_44) 59 v_46) 57 v_48) 60 v_50) 61 v_52) 13 v_54) 14 part_56) 62 v_58) 63 v_60) 64 v_62) 65 v_64) 66 v_66) 67 v_68) 68 v_70) 69 v_72) 70 v_74) 71 v_76) 72 v_78) 73 v_80) 74 v_82) 75 v_84) 76 v_86) 77 v_88) 78 v_90) 79 v_92) 80 v_94) 81 v_96) 82 v_98) 83 v_100) 84 v_102) 85 v_104) 86 v_106) 87 v_108) 88 v_110) 89 v_112) 90 v_114) 91 v_116) 92 v_118) 93 v_120) 94 v_122) 95 v_124) 96 v_126) 97 v_128) 98 v_130) 99 v_132) 6 v_134) h135

def J_precentorlaw25_TraceCuts_3 (P : Program) (call : FuncId → List AVal → Heap → Res AVal) (fuel : Nat) (k : Kn (Ex × T)) (t : T) (h : Heap) : Res (Ex × T) :=
arb (.val (t 10) h) call fun v_140 h141 =>
arb (.of (aBin P .add 3 (.tmp 29) (.const (.int .i64 1)) v_140 (.int .i64 1)) h141) call fun v_142 h143 =>
arb (.val v_142 h143) call fun i_144 h145 =>
k .normal (upd (upd (upd t 29 v_140) 30 v_142) 10 i_144) h145

def J_precentorlaw25_TraceCuts_2 (P : Program) (call : FuncId → List AVal → Heap → Res AVal) (fuel : Nat) (k : Kn (Ex × T)) (t : T) (h : Heap) : Res (Ex × T) :=
lt (sqK (J_precentorlaw25_TraceCuts_3 P call fuel k) k) fun k146 =>
lt (blkK 1 k146) fun k147 =>
arb (.val (t 7) h) call fun v_148 h149 =>
arb (.val (t 10) h149) call fun v_150 h151 =>
arb (.of (ixsR 4 v_148 v_150) h151) call fun v_152 h153 =>
arb (.of (fadR 0 v_152) h153) call fun v_154 h155 =>
arb (.of (ld1 h155 v_154) h155) call fun v_156 h157 =>
arb (.val v_156 h157) call fun v_158 h159 =>
gd (wantB v_158 false) (fun c => arb (.val (t 7) h159) call c) h159 fun v_160 h161 =>
gd (wantB v_158 false) (fun c => arb (.val (t 10) h161) call c) h161 fun v_162 h163 =>
gd (wantB v_158 false) (fun c => arb (.of (ixsR 4 v_160 v_162) h163) call c) h163 fun v_164 h165 =>
gd (wantB v_158 false) (fun c => arb (.of (fadR 1 v_164) h165) call c) h165 fun v_166 h167 =>
gd (wantB v_158 false) (fun c => arb (.of (ld1 h167 v_166) h167) call c) h167 fun v_168 h169 =>
gd (wantB v_158 false) (fun c => arb (.val (t 2) h169) call c) h169 fun v_170 h171 =>
gd (wantB v_158 false) (fun c => arb (.of (aBin P .neq 3 (.tmp 41) (.tmp 42) v_168 v_170) h171) call c) h171 fun v_172 h173 =>
arb (pkR v_158 (.bool true) v_172 h173) call fun v_174 h175 =>
cb v_174 (
arb (.val (t 9) h175) call fun v_176 h177 =>
arb (.val (t 7) h177) call fun v_178 h179 =>
arb (.val (t 10) h179) call fun v_180 h181 =>
arb (.of (ixsR 4 v_178 v_180) h181) call fun v_182 h183 =>
arb (.of (ldn 4 h183 v_182) h183) call fun v_184 h185 =>
arb (bslR 4 [(.bool false), (.int .i64 0), (.int .i64 0), (.int .i64 0)] 1 h185 [(0, 4, v_184)]) call fun v_186 h187 =>
arb (appR 4 32 h187 v_176 v_186) call fun v_188 h189 =>
arb (.val v_188 h189) call fun less_190 h191 =>
k147 .normal (upd (upd (upd (upd (upd (upd (upd (upd (upd (upd (upd (upd (upd (upd (upd (upd (upd (upd (upd (upd (upd (upd t 31 v_148) 32 v_150) 33 v_152) 34 v_154) 35 v_156) 36 v_158) 37 v_160) 38 v_162) 39 v_164) 40 v_166) 41 v_168) 42 v_170) 43 v_172) 44 v_174) 45 v_176) 46 v_178) 47 v_180) 48 v_182) 49 v_184) 50 v_186) 51 v_188) 9 less_190) h191) (
k147 .normal (upd (upd (upd (upd (upd (upd (upd (upd (upd (upd (upd (upd (upd (upd t 31 v_148) 32 v_150) 33 v_152) 34 v_154) 35 v_156) 36 v_158) 37 v_160) 38 v_162) 39 v_164) 40 v_166) 41 v_168) 42 v_170) 43 v_172) 44 v_174) h175)

def L_precentorlaw25_TraceCuts_1 (P : Program) (call : FuncId → List AVal → Heap → Res AVal) (fuel : Nat) (t : T) (h : Heap) : Res (Ex × T) :=
lt okK fun k =>
lt (sqK (J_precentorlaw25_TraceCuts_2 P call fuel k) k) fun k192 =>
arb (.val (t 10) h) call fun v_193 h194 =>
arb (.val (t 7) h194) call fun v_195 h196 =>
arb (.of (lenL v_195) h196) call fun v_197 h198 =>
arb (.of (aBin P .lss 3 (.tmp 25) (.tmp 27) v_193 v_197) h198) call fun v_199 h200 =>
cb v_199 (
k192 .normal (upd (upd (upd (upd t 25 v_193) 26 v_195) 27 v_197) 28 v_199) h200) (
k192 (.exit 0) (upd (upd (upd (upd t 25 v_193) 26 v_195) 27 v_197) 28 v_199) h200)

def S_precentorlaw25_TraceCuts (P : Program) (call : FuncId → List AVal → Heap → Res AVal) (fuel : Nat) (l_a0 cut_a1 who_a2 : AVal) (h : Heap) : Res AVal :=
lt (retK P [.tmp 6]) fun k =>
arb (.val (.bool false) h) call fun v_0 h1 =>
arb (.val l_a0 h1) call fun v_2 h3 =>
arb (.call F_precentorlaw25_marks [v_2, .nils, (.bool false)] h3) call fun v_4 h5 =>
arb (.val v_4 h5) call fun m_6 h7 =>
arb (.val cut_a1 h7) call fun v_8 h9 =>
arb (.val m_6 h9) call fun v_10 h11 =>
arb (.of (lenL v_10) h11) call fun v_12 h13 =>
arb (.of (aBin P .add 3 (.tmp 19) (.const (.int .i64 1)) v_12 (.int .i64 1)) h13) call fun v_14 h15 =>
arb (.call F_precentorhand_Pick [v_8, v_14] h15) call fun v_16 h17 =>
arb (.val v_16 h17) call fun k_18 h19 =>
arb (.val who_a2 h19) call fun v_20 h21 =>
arb (.call F_precentorhand_Pick [v_20, (.int .i64 3)] h21) call fun v_22 h23 =>
arb (.of (aBin P .add 3 (.const (.int .i64 1)) (.tmp 23) (.int .i64 1) v_22) h23) call fun v_24 h25 =>
arb (.val v_24 h25) call fun who_26 h27 =>
arb (.val .nils h27) call fun less_28 h29 =>
lt (sqK (J_precentorlaw25_TraceCuts_0 P call fuel k) k) fun k136 =>
arb (.val (.int .i64 0) h29) call fun i_137 h138 =>
lt (blkK 0 k136) fun k139 =>
(loopN (L_precentorlaw25_TraceCuts_1 P call fuel) fuel (upd (upd (upd (upd (upd (upd (upd (upd (upd (upd (upd (upd (upd (upd (upd (upd (enterT [l_a0, cut_a1, who_a2]) 6 v_0) 15 v_2) 16 v_4) 7 m_6) 17 v_8) 18 v_10) 19 v_12) 20 v_14) 21 v_16) 8 k_18) 22 v_20) 23 v_22) 24 v_24) 2 who_26) 9 less_28) 10 i_137) h138).bind (lpK k139)
theorem E_precentorlaw25_TraceCuts (call : FuncId → List AVal → Heap → Res AVal) (fuel : Nat) (l_a0 cut_a1 who_a2 : AVal) (h : Heap) : bodyR Try.prog call fuel Try.f7 [l_a0, cut_a1, who_a2] h = S_precentorlaw25_TraceCuts Try.prog call fuel l_a0 cut_a1 who_a2 h := by kernel_rfl
theorem R_precentorlaw25_TraceCuts {X : XTab} (l_a0 cut_a1 who_a2 : AVal) {h : Heap} {Q : AVal → Heap → Prop} (hx : X F_precentorlaw25_TraceCuts [l_a0, cut_a1, who_a2] = none) (q : Tells (fun m => S_precentorlaw25_TraceCuts Try.prog (acallX Try.prog X m) m l_a0 cut_a1 who_a2 h) Q) :
    Tells (fun m => acallX Try.prog X m F_precentorlaw25_TraceCuts [l_a0, cut_a1, who_a2] h) Q :=
  Tells.later (q.le fun m => (E_precentorlaw25_TraceCuts (acallX Try.prog X m) m l_a0 cut_a1 who_a2 h) ▸ acallX_le Try.func7 hx m h)

/-! ### precentor/precentorlaw25.sent -/

theorem C_precentorlaw25_sent_0 (h : Heap) (a : AVal) : aLoad Try.prog h 23 a = ldn 4 h a := by kernel_rfl
def S_precentorlaw25_sent (P : Program) (call : FuncId → List AVal → Heap → Res AVal) (fuel : Nat) (c_a0 n_a1 : AVal) (h : Heap) : Res AVal :=
lt (retK P [.cell 4 23]) fun k =>
arb (newR [(.bool false), (.int .i64 0), (.int .i64 0), (.int .i64 0)] h) call fun v_0 h1 =>
arb (.val c_a0 h1) call fun v_2 h3 =>
arb (.val c_a0 h3) call fun v_4 h5 =>
arb (.val n_a1 h5) call fun v_6 h7 =>
arb (.of (bldR [(.bool false), (.int .i64 0), (.int .i64 0), (.int .i64 0)] [(0, 1, (.bool true)), (1, 1, v_2), (2, 1, v_4), (3, 1, v_6)]) h7) call fun v_8 h9 =>
arb (stR 4 h9 v_0 v_8) call fun v_10 h11 =>
k .ret (upd (upd (upd (upd (upd (enterT [c_a0, n_a1]) 4 v_0) 5 v_2) 6 v_4) 7 v_6) 8 v_8) h11
theorem E_precentorlaw25_sent (call : FuncId → List AVal → Heap → Res AVal) (fuel : Nat) (c_a0 n_a1 : AVal) (h : Heap) : bodyR Try.prog call fuel Try.f8 [c_a0, n_a1] h = S_precentorlaw25_sent Try.prog call fuel c_a0 n_a1 h := by kernel_rfl
theorem R_precentorlaw25_sent {X : XTab} (c_a0 n_a1 : AVal) {h : Heap} {Q : AVal → Heap → Prop} (hx : X F_precentorlaw25_sent [c_a0, n_a1] = none) (q : Tells (fun m => S_precentorlaw25_sent Try.prog (acallX Try.prog X m) m c_a0 n_a1 h) Q) :
    Tells (fun m => acallX Try.prog X m F_precentorlaw25_sent [c_a0, n_a1] h) Q :=
  Tells.later (q.le fun m => (E_precentorlaw25_sent (acallX Try.prog X m) m c_a0 n_a1 h) ▸ acallX_le Try.func8 hx m h)

/-! ### precentor/precentorlaw25.heard -/

theorem C_precentorlaw25_heard_0 (h : Heap) (a : AVal) : aLoad Try.prog h 23 a = ldn 4 h a := by kernel_rfl
def S_precentorlaw25_heard (P : Program) (call : FuncId → List AVal → Heap → Res AVal) (fuel : Nat) (c_a0 from_a1 n_a2 : AVal) (h : Heap) : Res AVal :=
lt (retK P [.cell 6 23]) fun k =>
arb (newR [(.bool false), (.int .i64 0), (.int .i64 0), (.int .i64 0)] h) call fun v_0 h1 =>
arb (.val c_a0 h1) call fun v_2 h3 =>
arb (.val from_a1 h3) call fun v_4 h5 =>
arb (.val n_a2 h5) call fun v_6 h7 =>
arb (.of (bldR [(.bool false), (.int .i64 0), (.int .i64 0), (.int .i64 0)] [(1, 1, v_2), (2, 1, v_4), (3, 1, v_6)]) h7) call fun v_8 h9 =>
arb (stR 4 h9 v_0 v_8) call fun v_10 h11 =>
k .ret (upd (upd (upd (upd (upd (enterT [c_a0, from_a1, n_a2]) 6 v_0) 7 v_2) 8 v_4) 9 v_6) 10 v_8) h11
theorem E_precentorlaw25_heard (call : FuncId → List AVal → Heap → Res AVal) (fuel : Nat) (c_a0 from_a1 n_a2 : AVal) (h : Heap) : bodyR Try.prog call fuel Try.f9 [c_a0, from_a1, n_a2] h = S_precentorlaw25_heard Try.prog call fuel c_a0 from_a1 n_a2 h := by kernel_rfl
theorem R_precentorlaw25_heard {X : XTab} (c_a0 from_a1 n_a2 : AVal) {h : Heap} {Q : AVal → Heap → Prop} (hx : X F_precentorlaw25_heard [c_a0, from_a1, n_a2] = none) (q : Tells (fun m => S_precentorlaw25_heard Try.prog (acallX Try.prog X m) m c_a0 from_a1 n_a2 h) Q) :
    Tells (fun m => acallX Try.prog X m F_precentorlaw25_heard [c_a0, from_a1, n_a2] h) Q :=
  Tells.later (q.le fun m => (E_precentorlaw25_heard (acallX Try.prog X m) m c_a0 from_a1 n_a2 h) ▸ acallX_le Try.func9 hx m h)

/-! ### precentor/precentorlaw25.marks -/
def J_precentorlaw25_marks_1 (P : Program) (call : FuncId → List AVal → Heap → Res AVal) (fuel : Nat) (k : Kn (AVal)) (t : T) (h : Heap) : Res (AVal) :=
arb (.val (t 7) h) call fun v_4 h5 =>
arb (.val v_4 h5) call fun v_6 h7 =>
k .ret (upd (upd t 65 v_4) 6 v_6) h7

def J_precentorlaw25_marks_4 (P : Program) (call : FuncId → List AVal → Heap → Res AVal) (fuel : Nat) (k : Kn (Ex × T)) (t : T) (h : Heap) : Res (Ex × T) :=
arb (.val (t 10) h) call fun v_12 h13 =>
arb (.of (aBin P .add 3 (.tmp 56) (.const (.int .i64 1)) v_12 (.int .i64 1)) h13) call fun v_14 h15 =>
arb (.val v_14 h15) call fun i_16 h17 =>
k .normal (upd (upd (upd t 56 v_12) 57 v_14) 10 i_16) h17

def J_precentorlaw25_marks_3 (P : Program) (call : FuncId → List AVal → Heap → Res AVal) (fuel : Nat) (k : Kn (Ex × T)) (t : T) (h : Heap) : Res (Ex × T) :=
lt (sqK (J_precentorlaw25_marks_4 P call fuel k) k) fun k18 =>
lt (blkK 3 k18) fun k19 =>
arb (.val (t 7) h) call fun v_20 h21 =>
arb (.val (t 1) h21) call fun v_22 h23 =>
arb (.val (t 10) h23) call fun v_24 h25 =>
arb (.of (ixsR 4 v_22 v_24) h25) call fun v_26 h27 =>
arb (.of (ldn 4 h27 v_26) h27) call fun v_28 h29 =>
arb (bslR 4 [(.bool false), (.int .i64 0), (.int .i64 0), (.int .i64 0)] 1 h29 [(0, 4, v_28)]) call fun v_30 h31 =>
arb (appR 4 32 h31 v_20 v_30) call fun v_32 h33 =>
arb (.val v_32 h33) call fun out_34 h35 =>
k19 .normal (upd (upd (upd (upd (upd (upd (upd (upd t 58 v_20) 59 v_22) 60 v_24) 61 v_26) 62 v_28) 63 v_30) 64 v_32) 7 out_34) h35

def L_precentorlaw25_marks_2 (P : Program) (call : FuncId → List AVal → Heap → Res AVal) (fuel : Nat) (t : T) (h : Heap) : Res (Ex × T) :=
lt okK fun k =>
lt (sqK (J_precentorlaw25_marks_3 P call fuel k) k) fun k36 =>
arb (.val (t 10) h) call fun v_37 h38 =>
arb (.val (t 1) h38) call fun v_39 h40 =>
arb (.of (lenL v_39) h40) call fun v_41 h42 =>
arb (.of (aBin P .lss 3 (.tmp 45) (.tmp 47) v_37 v_41) h42) call fun v_43 h44 =>
arb (.val v_43 h44) call fun v_45 h46 =>
gd (wantB v_45 true) (fun c => arb (.val (t 10) h46) call c) h46 fun v_47 h48 =>
gd (wantB v_45 true) (fun c => arb (.of (aBin P .lss 3 (.tmp 50) (.const (.int .i64 3)) v_47 (.int .i64 3)) h48) call c) h48 fun v_49 h50 =>
arb (pkR v_45 v_49 (.bool false) h50) call fun v_51 h52 =>
arb (.val v_51 h52) call fun v_53 h54 =>
gd (wantB v_53 true) (fun c => arb (.val (t 2) h54) call c) h54 fun v_55 h56 =>
arb (pkR v_53 v_55 (.bool false) h56) call fun v_57 h58 =>
cb v_57 (
k36 .normal (upd (upd (upd (upd (upd (upd (upd (upd (upd (upd (upd t 45 v_37) 46 v_39) 47 v_41) 48 v_43) 49 v_45) 50 v_47) 51 v_49) 52 v_51) 53 v_53) 54 v_55) 55 v_57) h58) (
k36 (.exit 2) (upd (upd (upd (upd (upd (upd (upd (upd (upd (upd (upd t 45 v_37) 46 v_39) 47 v_41) 48 v_43) 49 v_45) 50 v_47) 51 v_49) 52 v_51) 53 v_53) 54 v_55) 55 v_57) h58)

def J_precentorlaw25_marks_0 (P : Program) (call : FuncId → List AVal → Heap → Res AVal) (fuel : Nat) (k : Kn (AVal)) (t : T) (h : Heap) : Res (AVal) :=
lt (sqK (J_precentorlaw25_marks_1 P call fuel k) k) fun k8 =>
arb (.val (.int .i64 0) h) call fun i_9 h10 =>
lt (blkK 2 k8) fun k11 =>
(loopN (L_precentorlaw25_marks_2 P call fuel) fuel (upd t 10 i_9) h10).bind (lpK k11)

def J_precentorlaw25_marks_7 (P : Program) (call : FuncId → List AVal → Heap → Res AVal) (fuel : Nat) (k : Kn (Ex × T)) (t : T) (h : Heap) : Res (Ex × T) :=
arb (.val (t 8) h) call fun v_63 h64 =>
arb (.of (aBin P .add 3 (.tmp 19) (.const (.int .i64 1)) v_63 (.int .i64 1)) h64) call fun v_65 h66 =>
arb (.val v_65 h66) call fun i_67 h68 =>
k .normal (upd (upd (upd t 19 v_63) 20 v_65) 8 i_67) h68

def J_precentorlaw25_marks_6 (P : Program) (call : FuncId → List AVal → Heap → Res AVal) (fuel : Nat) (k : Kn (Ex × T)) (t : T) (h : Heap) : Res (Ex × T) :=
lt (sqK (J_precentorlaw25_marks_7 P call fuel k) k) fun k69 =>
lt (blkK 1 k69) fun k70 =>
arb (.val (t 0) h) call fun v_71 h72 =>
arb (.val (t 8) h72) call fun v_73 h74 =>
arb (.of (ixsR 1 v_71 v_73) h74) call fun v_75 h76 =>
arb (.of (ld1 h76 v_75) h76) call fun v_77 h78 =>
arb (.call F_precentorhand_Pick [v_77, (.int .i64 1000)] h78) call fun v_79 h80 =>
arb (.val v_79 h80) call fun k_81 h82 =>
arb (.val (t 7) h82) call fun v_83 h84 =>
arb (.val k_81 h84) call fun v_85 h86 =>
arb (.of (aBin P .rem 3 (.tmp 27) (.const (.int .i64 3)) v_85 (.int .i64 3)) h86) call fun v_87 h88 =>
arb (.of (aBin P .eql 3 (.tmp 28) (.const (.int .i64 0)) v_87 (.int .i64 0)) h88) call fun v_89 h90 =>
arb (.val k_81 h90) call fun v_91 h92 =>
arb (.of (aBin P .quo 3 (.tmp 30) (.const (.int .i64 3)) v_91 (.int .i64 3)) h92) call fun v_93 h94 =>
arb (.of (aBin P .rem 3 (.tmp 31) (.const (.int .i64 3)) v_93 (.int .i64 3)) h94) call fun v_95 h96 =>
arb (.of (aBin P .add 3 (.const (.int .i64 1)) (.tmp 32) (.int .i64 1) v_95) h96) call fun v_97 h98 =>
arb (.val k_81 h98) call fun v_99 h100 =>
arb (.of (aBin P .quo 3 (.tmp 34) (.const (.int .i64 9)) v_99 (.int .i64 9)) h100) call fun v_101 h102 =>
arb (.of (aBin P .rem 3 (.tmp 35) (.const (.int .i64 3)) v_101 (.int .i64 3)) h102) call fun v_103 h104 =>
arb (.of (aBin P .add 3 (.const (.int .i64 1)) (.tmp 36) (.int .i64 1) v_103) h104) call fun v_105 h106 =>
arb (.val k_81 h106) call fun v_107 h108 =>
arb (.of (aBin P .quo 3 (.tmp 38) (.const (.int .i64 27)) v_107 (.int .i64 27)) h108) call fun v_109 h110 =>
arb (.of (aBin P .rem 3 (.tmp 39) (.const (.int .i64 3)) v_109 (.int .i64 3)) h110) call fun v_111 h112 =>
arb (.of (aBin P .add 3 (.const (.int .i64 1)) (.tmp 40) (.int .i64 1) v_111) h112) call fun v_113 h114 =>
arb (.of (bldR [(.bool false), (.int .i64 0), (.int .i64 0), (.int .i64 0)] [(0, 1, v_89), (1, 1, v_97), (2, 1, v_105), (3, 1, v_113)]) h114) call fun v_115 h116 =>
arb (bslR 4 [(.bool false), (.int .i64 0), (.int .i64 0), (.int .i64 0)] 1 h116 [(0, 4, v_115)]) call fun v_117 h118 =>
arb (appR 4 32 h118 v_83 v_117) call fun v_119 h120 =>
arb (.val v_119 h120) call fun out_121 h122 =>
k70 .normal (upd (upd (upd (upd (upd (upd (upd (upd (upd (upd (upd (upd (upd (upd (upd (upd (upd (upd (upd (upd (upd (upd (upd (upd (upd (upd t 21 v_71) 22 v_73) 23 v_75) 24 v_77) 25 v_79) 9 k_81) 26 v_83) 27 v_85) 28 v_87) 29 v_89) 30 v_91) 31 v_93) 32 v_95) 33 v_97) 34 v_99) 35 v_101) 36 v_103) 37 v_105) 38 v_107) 39 v_109) 40 v_111) 41 v_113) 42 v_115) 43 v_117) 44 v_119) 7 out_121) h122

def L_precentorlaw25_marks_5 (P : Program) (call : FuncId → List AVal → Heap → Res AVal) (fuel : Nat) (t : T) (h : Heap) : Res (Ex × T) :=
lt okK fun k =>
lt (sqK (J_precentorlaw25_marks_6 P call fuel k) k) fun k123 =>
arb (.val (t 8) h) call fun v_124 h125 =>
arb (.val (t 0) h125) call fun v_126 h127 =>
arb (.of (lenL v_126) h127) call fun v_128 h129 =>
arb (.of (aBin P .lss 3 (.tmp 11) (.tmp 13) v_124 v_128) h129) call fun v_130 h131 =>
arb (.val v_130 h131) call fun v_132 h133 =>
gd (wantB v_132 true) (fun c => arb (.val (t 8) h133) call c) h133 fun v_134 h135 =>
gd (wantB v_132 true) (fun c => arb (.of (aBin P .lss 3 (.tmp 16) (.const (.int .i64 24)) v_134 (.int .i64 24)) h135) call c) h135 fun v_136 h137 =>
arb (pkR v_132 v_136 (.bool false) h137) call fun v_138 h139 =>
cb v_138 (
k123 .normal (upd (upd (upd (upd (upd (upd (upd (upd t 11 v_124) 12 v_126) 13 v_128) 14 v_130) 15 v_132) 16 v_134) 17 v_136) 18 v_138) h139) (
k123 (.exit 0) (upd (upd (upd (upd (upd (upd (upd (upd t 11 v_124) 12 v_126) 13 v_128) 14 v_130) 15 v_132) 16 v_134) 17 v_136) 18 v_138) h139)

def S_precentorlaw25_marks (P : Program) (call : FuncId → List AVal → Heap → Res AVal) (fuel : Nat) (l_a0 raw_a1 odd_a2 : AVal) (h : Heap) : Res AVal :=
lt (retK P [.tmp 6]) fun k =>
arb (.val .nils h) call fun v_0 h1 =>
arb (.val .nils h1) call fun out_2 h3 =>
lt (sqK (J_precentorlaw25_marks_0 P call fuel k) k) fun k59 =>
arb (.val (.int .i64 0) h3) call fun i_60 h61 =>
lt (blkK 0 k59) fun k62 =>
(loopN (L_precentorlaw25_marks_5 P call fuel) fuel (upd (upd (upd (enterT [l_a0, raw_a1, odd_a2]) 6 v_0) 7 out_2) 8 i_60) h61).bind (lpK k62)
theorem E_precentorlaw25_marks (call : FuncId → List AVal → Heap → Res AVal) (fuel : Nat) (l_a0 raw_a1 odd_a2 : AVal) (h : Heap) : bodyR Try.prog call fuel Try.f16 [l_a0, raw_a1, odd_a2] h = S_precentorlaw25_marks Try.prog call fuel l_a0 raw_a1 odd_a2 h := by kernel_rfl
theorem R_precentorlaw25_marks {X : XTab} (l_a0 raw_a1 odd_a2 : AVal) {h : Heap} {Q : AVal → Heap → Prop} (hx : X F_precentorlaw25_marks [l_a0, raw_a1, odd_a2] = none) (q : Tells (fun m => S_precentorlaw25_marks Try.prog (acallX Try.prog X m) m l_a0 raw_a1 odd_a2 h) Q) :
    Tells (fun m => acallX Try.prog X m F_precentorlaw25_marks [l_a0, raw_a1, odd_a2] h) Q :=
  Tells.later (q.le fun m => (E_precentorlaw25_marks (acallX Try.prog X m) m l_a0 raw_a1 odd_a2 h) ▸ acallX_le Try.func16 hx m h)

/-! ### precentor/precentorlaw25.known -/

def S_precentorlaw25_known (P : Program) (call : FuncId → List AVal → Heap → Res AVal) (fuel : Nat) (h : Heap) : Res AVal :=
lt (retK P [.tmp 0]) fun k =>
arb (.val (.bool false) h) call fun v_0 h1 =>
arb (.call F_precentorlaw25_TraceKnown [] h1) call fun v_2 h3 =>
arb (.val v_2 h3) call fun v_4 h5 =>
k .ret (upd (upd (upd (enterT []) 0 v_0) 1 v_2) 0 v_4) h5
theorem E_precentorlaw25_known (call : FuncId → List AVal → Heap → Res AVal) (fuel : Nat) (h : Heap) : bodyR Try.prog call fuel Try.f19 [] h = S_precentorlaw25_known Try.prog call fuel  h := by kernel_rfl
theorem R_precentorlaw25_known {X : XTab} {h : Heap} {Q : AVal → Heap → Prop} (hx : X F_precentorlaw25_known [] = none) (q : Tells (fun m => S_precentorlaw25_known Try.prog (acallX Try.prog X m) m  h) Q) :
    Tells (fun m => acallX Try.prog X m F_precentorlaw25_known [] h) Q :=
  Tells.later (q.le fun m => (E_precentorlaw25_known (acallX Try.prog X m) m  h) ▸ acallX_le Try.func19 hx m h)

/-! ### precentor/precentorlaw25.same -/
def J_precentorlaw25_same_1 (P : Program) (call : FuncId → List AVal → Heap → Res AVal) (fuel : Nat) (k : Kn (AVal)) (t : T) (h : Heap) : Res (AVal) :=
arb (.val (.bool true) h) call fun v_2 h3 =>
k .ret (upd t 4 v_2) h3

def J_precentorlaw25_same_4 (P : Program) (call : FuncId → List AVal → Heap → Res AVal) (fuel : Nat) (k : Kn (Ex × T)) (t : T) (h : Heap) : Res (Ex × T) :=
arb (.val (t 5) h) call fun v_8 h9 =>
arb (.of (aBin P .add 3 (.tmp 15) (.const (.int .i64 1)) v_8 (.int .i64 1)) h9) call fun v_10 h11 =>
arb (.val v_10 h11) call fun i_12 h13 =>
k .normal (upd (upd (upd t 15 v_8) 16 v_10) 5 i_12) h13

def J_precentorlaw25_same_3 (P : Program) (call : FuncId → List AVal → Heap → Res AVal) (fuel : Nat) (k : Kn (Ex × T)) (t : T) (h : Heap) : Res (Ex × T) :=
lt (sqK (J_precentorlaw25_same_4 P call fuel k) k) fun k14 =>
lt (blkK 1 k14) fun k15 =>
obv (.val (t 0) h) fun v_16 =>
obv (.val (t 5) h) fun v_17 =>
obv (.of (ixsR 2 v_16 v_17) h) fun v_18 =>
obv (.of (ldn 2 h v_18) h) fun v_19 =>
obv (.val (t 1) h) fun v_20 =>
obv (.val (t 5) h) fun v_21 =>
obv (.of (ixsR 2 v_20 v_21) h) fun v_22 =>
obv (.of (ldn 2 h v_22) h) fun v_23 =>
obv (.of (aBin P .neq 30 (.tmp 20) (.tmp 24) v_19 v_23) h) fun v_24 =>
cb v_24 (
arb (.val (.bool false) h) call fun v_25 h26 =>
k15 .ret (upd (upd (upd (upd (upd (upd (upd (upd (upd (upd t 17 v_16) 18 v_17) 19 v_18) 20 v_19) 21 v_20) 22 v_21) 23 v_22) 24 v_23) 25 v_24) 4 v_25) h26) (
k15 .normal (upd (upd (upd (upd (upd (upd (upd (upd (upd t 17 v_16) 18 v_17) 19 v_18) 20 v_19) 21 v_20) 22 v_21) 23 v_22) 24 v_23) 25 v_24) h)

def L_precentorlaw25_same_2 (P : Program) (call : FuncId → List AVal → Heap → Res AVal) (fuel : Nat) (t : T) (h : Heap) : Res (Ex × T) :=
lt okK fun k =>
lt (sqK (J_precentorlaw25_same_3 P call fuel k) k) fun k27 =>
arb (.val (t 5) h) call fun v_28 h29 =>
arb (.val (t 0) h29) call fun v_30 h31 =>
arb (.of (lenL v_30) h31) call fun v_32 h33 =>
arb (.of (aBin P .lss 3 (.tmp 11) (.tmp 13) v_28 v_32) h33) call fun v_34 h35 =>
cb v_34 (
k27 .normal (upd (upd (upd (upd t 11 v_28) 12 v_30) 13 v_32) 14 v_34) h35) (
k27 (.exit 0) (upd (upd (upd (upd t 11 v_28) 12 v_30) 13 v_32) 14 v_34) h35)

def J_precentorlaw25_same_0 (P : Program) (call : FuncId → List AVal → Heap → Res AVal) (fuel : Nat) (k : Kn (AVal)) (t : T) (h : Heap) : Res (AVal) :=
lt (sqK (J_precentorlaw25_same_1 P call fuel k) k) fun k4 =>
arb (.val (.int .i64 0) h) call fun i_5 h6 =>
lt (blkK 0 k4) fun k7 =>
(loopN (L_precentorlaw25_same_2 P call fuel) fuel (upd t 5 i_5) h6).bind (lpK k7)

def S_precentorlaw25_same (P : Program) (call : FuncId → List AVal → Heap → Res AVal) (fuel : Nat) (a_a0 b_a1 : AVal) (h : Heap) : Res AVal :=
lt (retK P [.tmp 4]) fun k =>
arb (.val (.bool false) h) call fun v_0 h1 =>
lt (sqK (J_precentorlaw25_same_0 P call fuel k) k) fun k36 =>
arb (.val a_a0 h1) call fun v_37 h38 =>
arb (.of (lenL v_37) h38) call fun v_39 h40 =>
arb (.val b_a1 h40) call fun v_41 h42 =>
arb (.of (lenL v_41) h42) call fun v_43 h44 =>
arb (.of (aBin P .neq 3 (.tmp 7) (.tmp 9) v_39 v_43) h44) call fun v_45 h46 =>
cb v_45 (
arb (.val (.bool false) h46) call fun v_47 h48 =>
k36 .ret (upd (upd (upd (upd (upd (upd (upd (enterT [a_a0, b_a1]) 4 v_0) 6 v_37) 7 v_39) 8 v_41) 9 v_43) 10 v_45) 4 v_47) h48) (
k36 .normal (upd (upd (upd (upd (upd (upd (enterT [a_a0, b_a1]) 4 v_0) 6 v_37) 7 v_39) 8 v_41) 9 v_43) 10 v_45) h46)
theorem E_precentorlaw25_same (call : FuncId → List AVal → Heap → Res AVal) (fuel : Nat) (a_a0 b_a1 : AVal) (h : Heap) : bodyR Try.prog call fuel Try.f20 [a_a0, b_a1] h = S_precentorlaw25_same Try.prog call fuel a_a0 b_a1 h := by kernel_rfl
theorem R_precentorlaw25_same {X : XTab} (a_a0 b_a1 : AVal) {h : Heap} {Q : AVal → Heap → Prop} (hx : X F_precentorlaw25_same [a_a0, b_a1] = none) (q : Tells (fun m => S_precentorlaw25_same Try.prog (acallX Try.prog X m) m a_a0 b_a1 h) Q) :
    Tells (fun m => acallX Try.prog X m F_precentorlaw25_same [a_a0, b_a1] h) Q :=
  Tells.later (q.le fun m => (E_precentorlaw25_same (acallX Try.prog X m) m a_a0 b_a1 h) ▸ acallX_le Try.func20 hx m h)

/-! ### precentor/precentorlaw25.at -/
def J_precentorlaw25_at_0 (P : Program) (call : FuncId → List AVal → Heap → Res AVal) (fuel : Nat) (k : Kn (AVal)) (t : T) (h : Heap) : Res (AVal) :=
arb (.val (.int .i64 (-1)) h) call fun v_4 h5 =>
k .ret (upd t 4 v_4) h5

def J_precentorlaw25_at_3 (P : Program) (call : FuncId → List AVal → Heap → Res AVal) (fuel : Nat) (k : Kn (Ex × T)) (t : T) (h : Heap) : Res (Ex × T) :=
arb (.val (t 5) h) call fun v_10 h11 =>
arb (.of (aBin P .add 3 (.tmp 10) (.const (.int .i64 1)) v_10 (.int .i64 1)) h11) call fun v_12 h13 =>
arb (.val v_12 h13) call fun i_14 h15 =>
k .normal (upd (upd (upd t 10 v_10) 11 v_12) 5 i_14) h15

def J_precentorlaw25_at_2 (P : Program) (call : FuncId → List AVal → Heap → Res AVal) (fuel : Nat) (k : Kn (Ex × T)) (t : T) (h : Heap) : Res (Ex × T) :=
lt (sqK (J_precentorlaw25_at_3 P call fuel k) k) fun k16 =>
lt (blkK 1 k16) fun k17 =>
obv (.val (t 0) h) fun v_18 =>
obv (.val (t 5) h) fun v_19 =>
obv (.of (ixsR 2 v_18 v_19) h) fun v_20 =>
obv (.of (ldn 2 h v_20) h) fun v_21 =>
obv (.of (ldn 2 h (t 3)) h) fun v_22 =>
obv (.of (aBin P .eql 30 (.tmp 15) (.tmp 16) v_21 v_22) h) fun v_23 =>
cb v_23 (
arb (.val (t 5) h) call fun v_24 h25 =>
arb (.val v_24 h25) call fun v_26 h27 =>
k17 .ret (upd (upd (upd (upd (upd (upd (upd (upd t 12 v_18) 13 v_19) 14 v_20) 15 v_21) 16 v_22) 17 v_23) 18 v_24) 4 v_26) h27) (
k17 .normal (upd (upd (upd (upd (upd (upd t 12 v_18) 13 v_19) 14 v_20) 15 v_21) 16 v_22) 17 v_23) h)

def L_precentorlaw25_at_1 (P : Program) (call : FuncId → List AVal → Heap → Res AVal) (fuel : Nat) (t : T) (h : Heap) : Res (Ex × T) :=
lt okK fun k =>
lt (sqK (J_precentorlaw25_at_2 P call fuel k) k) fun k28 =>
arb (.val (t 5) h) call fun v_29 h30 =>
arb (.val (t 0) h30) call fun v_31 h32 =>
arb (.of (lenL v_31) h32) call fun v_33 h34 =>
arb (.of (aBin P .lss 3 (.tmp 6) (.tmp 8) v_29 v_33) h34) call fun v_35 h36 =>
cb v_35 (
k28 .normal (upd (upd (upd (upd t 6 v_29) 7 v_31) 8 v_33) 9 v_35) h36) (
k28 (.exit 0) (upd (upd (upd (upd t 6 v_29) 7 v_31) 8 v_33) 9 v_35) h36)

def S_precentorlaw25_at (P : Program) (call : FuncId → List AVal → Heap → Res AVal) (fuel : Nat) (l_a0 x_a1 : AVal) (h : Heap) : Res AVal :=
lt (retK P [.tmp 4]) fun k =>
arb (boxR x_a1 h) call fun x_0 h1 =>
arb (.val (.int .i64 0) h1) call fun v_2 h3 =>
lt (sqK (J_precentorlaw25_at_0 P call fuel k) k) fun k6 =>
arb (.val (.int .i64 0) h3) call fun i_7 h8 =>
lt (blkK 0 k6) fun k9 =>
(loopN (L_precentorlaw25_at_1 P call fuel) fuel (upd (upd (upd (enterT [l_a0, x_a1]) 3 x_0) 4 v_2) 5 i_7) h8).bind (lpK k9)
theorem E_precentorlaw25_at (call : FuncId → List AVal → Heap → Res AVal) (fuel : Nat) (l_a0 x_a1 : AVal) (h : Heap) : bodyR Try.prog call fuel Try.f26 [l_a0, x_a1] h = S_precentorlaw25_at Try.prog call fuel l_a0 x_a1 h := by kernel_rfl
theorem R_precentorlaw25_at {X : XTab} (l_a0 x_a1 : AVal) {h : Heap} {Q : AVal → Heap → Prop} (hx : X F_precentorlaw25_at [l_a0, x_a1] = none) (q : Tells (fun m => S_precentorlaw25_at Try.prog (acallX Try.prog X m) m l_a0 x_a1 h) Q) :
    Tells (fun m => acallX Try.prog X m F_precentorlaw25_at [l_a0, x_a1] h) Q :=
  Tells.later (q.le fun m => (E_precentorlaw25_at (acallX Try.prog X m) m l_a0 x_a1 h) ▸ acallX_le Try.func26 hx m h)


end Go.Proofs.Ytochkdifpgelmaa
