/-
  Functions of precentorlaw20 in the form of YtagfibiakjiooaaABS (printed by a program of ours, gen.lean).
-/
import Derived.Test.YtagfibiakjiooaaSIds
set_option linter.unusedVariables false
namespace Go.Proofs.Ytagfibiakjiooaa
open Go.Ab
/-! ### precentor/precentorlaw20.DoorSpent -/
def J_precentorlaw20_DoorSpent_3 (P : Program) (call : FuncId → List AVal → Heap → Res AVal) (fuel : Nat) (k : Kn (AVal)) (t : T) (h : Heap) : Res (AVal) :=
arb (.val (t 8) h) call fun v_78 h79 =>
arb (.val (t 2) h79) call fun v_80 h81 =>
arb (.call F_door_Door_Offer [v_78, v_80, .nils] h81) call fun v_82 h83 =>
arb (.val v_82 h83) call fun v_84 h85 =>
arb (extR v_84 0 h85) call fun v_86 h87 =>
arb (extR v_84 1 h87) call fun v_88 h89 =>
arb (.val v_86 h89) call fun m_90 h91 =>
arb (.val v_88 h91) call fun y_92 h93 =>
arb (.val y_92 h93) call fun v_94 h95 =>
arb (.of (aBin P .eql 28 (.tmp 96) (.const (.int .i64 0)) v_94 (.int .i64 0)) h95) call fun v_96 h97 =>
arb (.val (t 0) h97) call fun v_98 h99 =>
arb (.of (aBin P .gtr 3 (.tmp 98) (.const (.int .i64 0)) v_98 (.int .i64 0)) h99) call fun v_100 h101 =>
arb (.of (aBin P .eql 4 (.tmp 97) (.tmp 99) v_96 v_100) h101) call fun v_102 h103 =>
arb (.val v_102 h103) call fun v_104 h105 =>
gd (wantB v_104 true) (fun c => arb (.val y_92 h105) call c) h105 fun v_106 h107 =>
gd (wantB v_104 true) (fun c => arb (.of (aBin P .neq 28 (.tmp 102) (.const (.int .i64 0)) v_106 (.int .i64 0)) h107) call c) h107 fun v_108 h109 =>
gd (wantB v_104 true) (fun c => arb (.val v_108 h109) call c) h109 fun v_110 h111 =>
gd (wantB v_110 false) (fun c => arb (.val m_90 h111) call c) h111 fun v_112 h113 =>
gd (wantB v_110 false) (fun c => arb (.of (fadR 5 (t 7)) h113) call c) h113 fun v_114 h115 =>
gd (wantB v_110 false) (fun c => arb (.of (ld1 h115 v_114) h115) call c) h115 fun v_116 h117 =>
gd (wantB v_110 false) (fun c => arb (.of (aBin P .add 3 (.tmp 107) (.const (.int .i64 1)) v_116 (.int .i64 1)) h117) call c) h117 fun v_118 h119 =>
gd (wantB v_110 false) (fun c => arb (.of (aBin P .eql 3 (.tmp 105) (.tmp 108) v_112 v_118) h119) call c) h119 fun v_120 h121 =>
gd (wantB v_104 true) (fun c => arb (pkR v_110 (.bool true) v_120 h121) call c) h121 fun v_122 h123 =>
arb (pkR v_104 v_122 (.bool false) h123) call fun v_124 h125 =>
arb (.val v_124 h125) call fun v_126 h127 =>
k .ret (upd (upd (upd (upd (upd (upd (upd (upd (upd (upd (upd (upd (upd (upd (upd (upd (upd (upd (upd (upd (upd (upd (upd (upd (upd t 91 v_78) 92 v_80) 93 v_82) 90 v_84) 94 v_86) 95 v_88) 15 m_90) 16 y_92) 96 v_94) 97 v_96) 98 v_98) 99 v_100) 100 v_102) 101 v_104) 102 v_106) 103 v_108) 104 v_110) 105 v_112) 106 v_114) 107 v_116) 108 v_118) 109 v_120) 110 v_122) 111 v_124) 6 v_126) h127

def J_precentorlaw20_DoorSpent_2 (P : Program) (call : FuncId → List AVal → Heap → Res AVal) (fuel : Nat) (k : Kn (AVal)) (t : T) (h : Heap) : Res (AVal) :=
lt (sqK (J_precentorlaw20_DoorSpent_3 P call fuel k) k) fun k128 =>
arb (.val (t 2) h) call fun v_129 h130 =>
arb (.val (t 1) h130) call fun v_131 h132 =>
arb (.of (aBin P .eql 3 (.tmp 87) (.tmp 88) v_129 v_131) h132) call fun v_133 h134 =>
cb v_133 (
arb (.val (.bool true) h134) call fun v_135 h136 =>
k128 .ret (upd (upd (upd (upd t 87 v_129) 88 v_131) 89 v_133) 6 v_135) h136) (
k128 .normal (upd (upd (upd t 87 v_129) 88 v_131) 89 v_133) h134)

def J_precentorlaw20_DoorSpent_1 (P : Program) (call : FuncId → List AVal → Heap → Res AVal) (fuel : Nat) (k : Kn (AVal)) (t : T) (h : Heap) : Res (AVal) :=
arb (.val (t 8) h) call fun v_62 h63 =>
arb (.val (t 1) h63) call fun v_64 h65 =>
arb (.call F_door_Door_Offer [v_62, v_64, .nils] h65) call fun v_66 h67 =>
arb (.val v_66 h67) call fun v_68 h69 =>
arb (extR v_68 0 h69) call fun v_70 h71 =>
arb (extR v_68 1 h71) call fun v_72 h73 =>
arb (.val v_70 h73) call fun n_74 h75 =>
arb (.val v_72 h75) call fun x_76 h77 =>
lt (sqK (J_precentorlaw20_DoorSpent_2 P call fuel k) k) fun k137 =>
arb (.val n_74 h77) call fun v_138 h139 =>
arb (.of (aBin P .neq 3 (.tmp 75) (.const (.int .i64 0)) v_138 (.int .i64 0)) h139) call fun v_140 h141 =>
arb (.val v_140 h141) call fun v_142 h143 =>
gd (wantB v_142 false) (fun c => arb (.val x_76 h143) call c) h143 fun v_144 h145 =>
gd (wantB v_142 false) (fun c => arb (.of (aBin P .neq 28 (.tmp 78) (.const (.int .i64 8)) v_144 (.int .i64 8)) h145) call c) h145 fun v_146 h147 =>
arb (pkR v_142 (.bool true) v_146 h147) call fun v_148 h149 =>
arb (.val v_148 h149) call fun v_150 h151 =>
gd (wantB v_150 false) (fun c => arb (.val (t 8) h151) call c) h151 fun v_152 h153 =>
gd (wantB v_150 false) (fun c => arb (.call F_door_Door_Waiting [v_152] h153) call c) h153 fun v_154 h155 =>
gd (wantB v_150 false) (fun c => arb (.val (t 0) h155) call c) h155 fun v_156 h157 =>
gd (wantB v_150 false) (fun c => arb (.of (aBin P .neq 3 (.tmp 83) (.tmp 84) v_154 v_156) h157) call c) h157 fun v_158 h159 =>
arb (pkR v_150 (.bool true) v_158 h159) call fun v_160 h161 =>
cb v_160 (
arb (.val (.bool false) h161) call fun v_162 h163 =>
k137 .ret (upd (upd (upd (upd (upd (upd (upd (upd (upd (upd (upd (upd (upd (upd (upd (upd (upd (upd (upd (upd (upd t 70 v_62) 71 v_64) 72 v_66) 69 v_68) 73 v_70) 74 v_72) 13 n_74) 14 x_76) 75 v_138) 76 v_140) 77 v_142) 78 v_144) 79 v_146) 80 v_148) 81 v_150) 82 v_152) 83 v_154) 84 v_156) 85 v_158) 86 v_160) 6 v_162) h163) (
k137 .normal (upd (upd (upd (upd (upd (upd (upd (upd (upd (upd (upd (upd (upd (upd (upd (upd (upd (upd (upd (upd t 70 v_62) 71 v_64) 72 v_66) 69 v_68) 73 v_70) 74 v_72) 13 n_74) 14 x_76) 75 v_138) 76 v_140) 77 v_142) 78 v_144) 79 v_146) 80 v_148) 81 v_150) 82 v_152) 83 v_154) 84 v_156) 85 v_158) 86 v_160) h161)

def J_precentorlaw20_DoorSpent_6 (P : Program) (call : FuncId → List AVal → Heap → Res AVal) (fuel : Nat) (k : Kn (Ex × T)) (t : T) (h : Heap) : Res (Ex × T) :=
arb (.val (t 10) h) call fun v_168 h169 =>
arb (.of (aBin P .add 3 (.tmp 51) (.const (.int .i64 1)) v_168 (.int .i64 1)) h169) call fun v_170 h171 =>
arb (.val v_170 h171) call fun i_172 h173 =>
k .normal (upd (upd (upd t 51 v_168) 52 v_170) 10 i_172) h173

def J_precentorlaw20_DoorSpent_5 (P : Program) (call : FuncId → List AVal → Heap → Res AVal) (fuel : Nat) (k : Kn (Ex × T)) (t : T) (h : Heap) : Res (Ex × T) :=
lt (sqK (J_precentorlaw20_DoorSpent_6 P call fuel k) k) fun k174 =>
lt (blkK 1 k174) fun k175 =>
arb (.val (t 8) h) call fun v_176 h177 =>
arb (.val (t 1) h177) call fun v_178 h179 =>
arb (.call F_door_Door_Offer [v_176, v_178, .nils] h179) call fun v_180 h181 =>
arb (.val v_180 h181) call fun v_182 h183 =>
arb (extR v_182 0 h183) call fun v_184 h185 =>
arb (extR v_182 1 h185) call fun v_186 h187 =>
arb (.val v_184 h187) call fun n_188 h189 =>
arb (.val v_186 h189) call fun x_190 h191 =>
arb (.val x_190 h191) call fun v_192 h193 =>
arb (.of (aBin P .neq 28 (.tmp 59) (.const (.int .i64 0)) v_192 (.int .i64 0)) h193) call fun v_194 h195 =>
arb (.val v_194 h195) call fun v_196 h197 =>
gd (wantB v_196 false) (fun c => arb (.val n_188 h197) call c) h197 fun v_198 h199 =>
gd (wantB v_196 false) (fun c => arb (.of (fadR 5 (t 7)) h199) call c) h199 fun v_200 h201 =>
gd (wantB v_196 false) (fun c => arb (.of (ld1 h201 v_200) h201) call c) h201 fun v_202 h203 =>
gd (wantB v_196 false) (fun c => arb (.val (t 10) h203) call c) h203 fun v_204 h205 =>
gd (wantB v_196 false) (fun c => arb (.of (aBin P .add 3 (.tmp 64) (.tmp 65) v_202 v_204) h205) call c) h205 fun v_206 h207 =>
gd (wantB v_196 false) (fun c => arb (.of (aBin P .neq 3 (.tmp 62) (.tmp 66) v_198 v_206) h207) call c) h207 fun v_208 h209 =>
arb (pkR v_196 (.bool true) v_208 h209) call fun v_210 h211 =>
cb v_210 (
arb (.val (.bool false) h211) call fun v_212 h213 =>
k175 .ret (upd (upd (upd (upd (upd (upd (upd (upd (upd (upd (upd (upd (upd (upd (upd (upd (upd (upd (upd t 54 v_176) 55 v_178) 56 v_180) 53 v_182) 57 v_184) 58 v_186) 11 n_188) 12 x_190) 59 v_192) 60 v_194) 61 v_196) 62 v_198) 63 v_200) 64 v_202) 65 v_204) 66 v_206) 67 v_208) 68 v_210) 6 v_212) h213) (
k175 .normal (upd (upd (upd (upd (upd (upd (upd (upd (upd (upd (upd (upd (upd (upd (upd (upd (upd (upd t 54 v_176) 55 v_178) 56 v_180) 53 v_182) 57 v_184) 58 v_186) 11 n_188) 12 x_190) 59 v_192) 60 v_194) 61 v_196) 62 v_198) 63 v_200) 64 v_202) 65 v_204) 66 v_206) 67 v_208) 68 v_210) h211)

def L_precentorlaw20_DoorSpent_4 (P : Program) (call : FuncId → List AVal → Heap → Res AVal) (fuel : Nat) (t : T) (h : Heap) : Res (Ex × T) :=
lt okK fun k =>
lt (sqK (J_precentorlaw20_DoorSpent_5 P call fuel k) k) fun k214 =>
arb (.val (t 10) h) call fun v_215 h216 =>
arb (.val (t 0) h216) call fun v_217 h218 =>
arb (.of (aBin P .leq 3 (.tmp 48) (.tmp 49) v_215 v_217) h218) call fun v_219 h220 =>
cb v_219 (
k214 .normal (upd (upd (upd t 48 v_215) 49 v_217) 50 v_219) h220) (
k214 (.exit 0) (upd (upd (upd t 48 v_215) 49 v_217) 50 v_219) h220)

def J_precentorlaw20_DoorSpent_0 (P : Program) (call : FuncId → List AVal → Heap → Res AVal) (fuel : Nat) (k : Kn (AVal)) (t : T) (h : Heap) : Res (AVal) :=
lt (sqK (J_precentorlaw20_DoorSpent_1 P call fuel k) k) fun k164 =>
arb (.val (.int .i64 1) h) call fun i_165 h166 =>
lt (blkK 0 k164) fun k167 =>
(loopN (L_precentorlaw20_DoorSpent_4 P call fuel) fuel (upd t 10 i_165) h166).bind (lpK k167)

def S_precentorlaw20_DoorSpent (P : Program) (call : FuncId → List AVal → Heap → Res AVal) (fuel : Nat) (left_a0 client_a1 other_a2 : AVal) (h : Heap) : Res AVal :=
lt (retK P [.tmp 6]) fun k =>
arb (.val (.bool false) h) call fun v_0 h1 =>
arb (.val left_a0 h1) call fun v_2 h3 =>
arb (.call F_precentorhand_Pick [v_2, (.int .i64 4)] h3) call fun v_4 h5 =>
arb (.val v_4 h5) call fun left_6 h7 =>
arb (.val client_a1 h7) call fun v_8 h9 =>
arb (.call F_precentorhand_Pick [v_8, (.int .i64 6)] h9) call fun v_10 h11 =>
arb (.of (aBin P .add 3 (.const (.int .i64 1)) (.tmp 20) (.int .i64 1) v_10) h11) call fun v_12 h13 =>
arb (.val v_12 h13) call fun client_14 h15 =>
arb (.val client_14 h15) call fun v_16 h17 =>
arb (.val other_a2 h17) call fun v_18 h19 =>
arb (.call F_precentorhand_Pick [v_18, (.int .i64 5)] h19) call fun v_20 h21 =>
arb (.of (aBin P .add 3 (.tmp 22) (.tmp 24) v_16 v_20) h21) call fun v_22 h23 =>
arb (.of (aBin P .rem 3 (.tmp 25) (.const (.int .i64 6)) v_22 (.int .i64 6)) h23) call fun v_24 h25 =>
arb (.of (aBin P .add 3 (.const (.int .i64 1)) (.tmp 26) (.int .i64 1) v_24) h25) call fun v_26 h27 =>
arb (.val v_26 h27) call fun other_28 h29 =>
arb (.call F_precentorlaw20_config [] h29) call fun v_30 h31 =>
arb (newR [.nils, (.int .i64 0), (.int .i64 0), (.int .i64 0), (.int .i64 0), (.int .i64 0)] h31) call fun c_32 h33 =>
arb (stR 6 h33 c_32 v_30) call fun v_34 h35 =>
arb (.of (fadR 3 c_32) h35) call fun v_36 h37 =>
arb (stR 1 h37 v_36 (.int .i64 8)) call fun v_38 h39 =>
arb (.val left_6 h39) call fun v_40 h41 =>
arb (.of (aBin P .sub 3 (.const (.int .i64 4611686018427387904)) (.tmp 30) (.int .i64 4611686018427387904) v_40) h41) call fun v_42 h43 =>
arb (.of (fadR 5 c_32) h43) call fun v_44 h45 =>
arb (stR 1 h45 v_44 v_42) call fun v_46 h47 =>
arb (.of (ldn 6 h47 c_32) h47) call fun v_48 h49 =>
arb (.call F_door_New [v_48, (.int .i64 2)] h49) call fun v_50 h51 =>
arb (.val v_50 h51) call fun v_52 h53 =>
arb (extR v_52 0 h53) call fun v_54 h55 =>
arb (extR v_52 1 h55) call fun v_56 h57 =>
arb (.val v_54 h57) call fun d_58 h59 =>
arb (.val v_56 h59) call fun e_60 h61 =>
lt (sqK (J_precentorlaw20_DoorSpent_0 P call fuel k) k) fun k221 =>
arb (.call F_precentorlaw20_known [] h61) call fun v_222 h223 =>
arb (.of (aUn P .not v_222) h223) call fun v_224 h225 =>
arb (.val v_224 h225) call fun v_226 h227 =>
gd (wantB v_226 false) (fun c => arb (.val e_60 h227) call c) h227 fun v_228 h229 =>
gd (wantB v_226 false) (fun c => arb (.of (aBin P .neq 28 (.tmp 41) (.const (.int .i64 0)) v_228 (.int .i64 0)) h229) call c) h229 fun v_230 h231 =>
arb (pkR v_226 (.bool true) v_230 h231) call fun v_232 h233 =>
arb (.val v_232 h233) call fun v_234 h235 =>
gd (wantB v_234 false) (fun c => arb (.val d_58 h235) call c) h235 fun v_236 h237 =>
gd (wantB v_234 false) (fun c => arb (.of (aBin P .eql 27 (.tmp 45) (.const (.pointer none)) v_236 .nilp) h237) call c) h237 fun v_238 h239 =>
arb (pkR v_234 (.bool true) v_238 h239) call fun v_240 h241 =>
cb v_240 (
arb (.val (.bool false) h241) call fun v_242 h243 =>
k221 .ret (upd (upd (upd (upd (upd (upd (upd (upd (upd (upd (upd (upd (upd (upd (upd (upd (upd (upd (upd (upd (upd (upd (upd (upd (upd (upd (upd (upd (upd (upd (upd (upd (upd (upd (upd (upd (upd (upd (upd (enterT [left_a0, client_a1, other_a2]) 6 v_0) 17 v_2) 18 v_4) 0 left_6) 19 v_8) 20 v_10) 21 v_12) 1 client_14) 22 v_16) 23 v_18) 24 v_20) 25 v_22) 26 v_24) 27 v_26) 2 other_28) 28 v_30) 7 c_32) 29 v_36) 30 v_40) 31 v_42) 32 v_44) 34 v_48) 35 v_50) 33 v_52) 36 v_54) 37 v_56) 8 d_58) 9 e_60) 38 v_222) 39 v_224) 40 v_226) 41 v_228) 42 v_230) 43 v_232) 44 v_234) 45 v_236) 46 v_238) 47 v_240) 6 v_242) h243) (
k221 .normal (upd (upd (upd (upd (upd (upd (upd (upd (upd (upd (upd (upd (upd (upd (upd (upd (upd (upd (upd (upd (upd (upd (upd (upd (upd (upd (upd (upd (upd (upd (upd (upd (upd (upd (upd (upd (upd (upd (enterT [left_a0, client_a1, other_a2]) 6 v_0) 17 v_2) 18 v_4) 0 left_6) 19 v_8) 20 v_10) 21 v_12) 1 client_14) 22 v_16) 23 v_18) 24 v_20) 25 v_22) 26 v_24) 27 v_26) 2 other_28) 28 v_30) 7 c_32) 29 v_36) 30 v_40) 31 v_42) 32 v_44) 34 v_48) 35 v_50) 33 v_52) 36 v_54) 37 v_56) 8 d_58) 9 e_60) 38 v_222) 39 v_224) 40 v_226) 41 v_228) 42 v_230) 43 v_232) 44 v_234) 45 v_236) 46 v_238) 47 v_240) h241)
theorem E_precentorlaw20_DoorSpent (call : FuncId → List AVal → Heap → Res AVal) (fuel : Nat) (left_a0 client_a1 other_a2 : AVal) (h : Heap) : bodyR Try.prog call fuel Try.f3 [left_a0, client_a1, other_a2] h = S_precentorlaw20_DoorSpent Try.prog call fuel left_a0 client_a1 other_a2 h := by kernel_rfl
theorem R_precentorlaw20_DoorSpent {X : XTab} (left_a0 client_a1 other_a2 : AVal) {h : Heap} {Q : AVal → Heap → Prop} (hx : X F_precentorlaw20_DoorSpent [left_a0, client_a1, other_a2] = none) (q : Tells (fun m => S_precentorlaw20_DoorSpent Try.prog (acallX Try.prog X m) m left_a0 client_a1 other_a2 h) Q) :
    Tells (fun m => acallX Try.prog X m F_precentorlaw20_DoorSpent [left_a0, client_a1, other_a2] h) Q :=
  Tells.later (q.le fun m => (E_precentorlaw20_DoorSpent (acallX Try.prog X m) m left_a0 client_a1 other_a2 h) ▸ acallX_le Try.func3 hx m h)

/-! ### precentor/precentorlaw20.config -/

theorem C_precentorlaw20_config_0 (h : Heap) (a : AVal) : aLoad Try.prog h 25 a = ldn 6 h a := by kernel_rfl
def S_precentorlaw20_config (P : Program) (call : FuncId → List AVal → Heap → Res AVal) (fuel : Nat) (h : Heap) : Res AVal :=
lt (retK P [.cell 0 25]) fun k =>
arb (newR [.nils, (.int .i64 0), (.int .i64 0), (.int .i64 0), (.int .i64 0), (.int .i64 0)] h) call fun v_0 h1 =>
arb (bslR 1 [(.int .i64 0), (.int .i64 0)] 2 h1 [(0, 1, (.int .i64 0)), (1, 1, (.int .i64 0))]) call fun v_2 h3 =>
arb (.of (bldR [.nils, (.int .i64 0), (.int .i64 0), (.int .i64 0), (.int .i64 0), (.int .i64 0)] [(0, 1, v_2), (1, 1, (.int .i64 1)), (2, 1, (.int .i64 1)), (3, 1, (.int .i64 3)), (4, 1, (.int .i64 2))]) h3) call fun v_4 h5 =>
arb (stR 6 h5 v_0 v_4) call fun v_6 h7 =>
k .ret (upd (upd (upd (enterT []) 0 v_0) 1 v_2) 2 v_4) h7
theorem E_precentorlaw20_config (call : FuncId → List AVal → Heap → Res AVal) (fuel : Nat) (h : Heap) : bodyR Try.prog call fuel Try.f5 [] h = S_precentorlaw20_config Try.prog call fuel  h := by kernel_rfl
theorem R_precentorlaw20_config {X : XTab} {h : Heap} {Q : AVal → Heap → Prop} (hx : X F_precentorlaw20_config [] = none) (q : Tells (fun m => S_precentorlaw20_config Try.prog (acallX Try.prog X m) m  h) Q) :
    Tells (fun m => acallX Try.prog X m F_precentorlaw20_config [] h) Q :=
  Tells.later (q.le fun m => (E_precentorlaw20_config (acallX Try.prog X m) m  h) ▸ acallX_le Try.func5 hx m h)

/-! ### precentor/precentorlaw20.known -/

def S_precentorlaw20_known (P : Program) (call : FuncId → List AVal → Heap → Res AVal) (fuel : Nat) (h : Heap) : Res AVal :=
lt (retK P [.tmp 0]) fun k =>
arb (.val (.bool false) h) call fun v_0 h1 =>
arb (.call F_precentorlaw20_DoorKnown [] h1) call fun v_2 h3 =>
arb (.val v_2 h3) call fun v_4 h5 =>
k .ret (upd (upd (upd (enterT []) 0 v_0) 1 v_2) 0 v_4) h5
theorem E_precentorlaw20_known (call : FuncId → List AVal → Heap → Res AVal) (fuel : Nat) (h : Heap) : bodyR Try.prog call fuel Try.f7 [] h = S_precentorlaw20_known Try.prog call fuel  h := by kernel_rfl
theorem R_precentorlaw20_known {X : XTab} {h : Heap} {Q : AVal → Heap → Prop} (hx : X F_precentorlaw20_known [] = none) (q : Tells (fun m => S_precentorlaw20_known Try.prog (acallX Try.prog X m) m  h) Q) :
    Tells (fun m => acallX Try.prog X m F_precentorlaw20_known [] h) Q :=
  Tells.later (q.le fun m => (E_precentorlaw20_known (acallX Try.prog X m) m  h) ▸ acallX_le Try.func7 hx m h)


end Go.Proofs.Ytagfibiakjiooaa
