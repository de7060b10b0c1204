/-
  Functions of precentorref9 in the form of YtbkfamdkdjajjaaABS (printed by a program of ours, gen.lean).
-/
import Derived.Test.YtbkfamdkdjajjaaSIds
set_option linter.unusedVariables false
namespace Go.Proofs.Ytbkfamdkdjajjaa
open Go.Ab
/-! ### precentor/precentorref9.Chain -/
def J_precentorref9_Chain_2 (P : Program) (call : FuncId → List AVal → Heap → Res AVal) (fuel : Nat) (k : Kn (AVal)) (t : T) (h : Heap) : Res (AVal) :=
arb (.val (t 7) h) call fun v_10 h11 =>
arb (.val v_10 h11) call fun v_12 h13 =>
k .ret (upd (upd t 96 v_10) 4 v_12) h13

def J_precentorref9_Chain_5 (P : Program) (call : FuncId → List AVal → Heap → Res AVal) (fuel : Nat) (k : Kn (Ex × T)) (t : T) (h : Heap) : Res (Ex × T) :=
arb (.val (t 8) h) call fun v_18 h19 =>
arb (.of (aBin P .add 3 (.tmp 42) (.const (.int .i64 1)) v_18 (.int .i64 1)) h19) call fun v_20 h21 =>
arb (.val v_20 h21) call fun b_22 h23 =>
k .normal (upd (upd (upd t 42 v_18) 43 v_20) 8 b_22) h23

def J_precentorref9_Chain_8 (P : Program) (call : FuncId → List AVal → Heap → Res AVal) (fuel : Nat) (k : Kn (Ex × T)) (t : T) (h : Heap) : Res (Ex × T) :=
arb (.val (t 9) h) call fun v_29 h30 =>
arb (.of (aBin P .add 3 (.tmp 48) (.const (.int .i64 1)) v_29 (.int .i64 1)) h30) call fun v_31 h32 =>
arb (.val v_31 h32) call fun i_33 h34 =>
k .normal (upd (upd (upd t 48 v_29) 49 v_31) 9 i_33) h34

def J_precentorref9_Chain_11 (P : Program) (call : FuncId → List AVal → Heap → Res AVal) (fuel : Nat) (k : Kn (Ex × T)) (t : T) (h : Heap) : Res (Ex × T) :=
arb (.val (t 10) h) call fun v_42 h43 =>
arb (.of (aBin P .add 3 (.tmp 55) (.const (.int .i64 1)) v_42 (.int .i64 1)) h43) call fun v_44 h45 =>
arb (.val v_44 h45) call fun k_46 h47 =>
k .normal (upd (upd (upd t 55 v_42) 56 v_44) 10 k_46) h47

def J_precentorref9_Chain_12 (P : Program) (call : FuncId → List AVal → Heap → Res AVal) (fuel : Nat) (k : Kn (Ex × T)) (t : T) (h : Heap) : Res (Ex × T) :=
arb (.val (t 12) h) call fun v_62 h63 =>
arb (.of (lenL v_62) h63) call fun v_64 h65 =>
arb (.of (aBin P .gtr 3 (.tmp 80) (.const (.int .i64 0)) v_64 (.int .i64 0)) h65) call fun v_66 h67 =>
arb (.val v_66 h67) call fun v_68 h69 =>
gd (wantB v_68 true) (fun c => arb (.val (t 0) h69) call c) h69 fun v_70 h71 =>
gd (wantB v_68 true) (fun c => arb (.val (t 12) h71) call c) h71 fun v_72 h73 =>
gd (wantB v_68 true) (fun c => arb (.call F_precentorref9_Place [v_70, v_72] h73) call c) h73 fun v_74 h75 =>
gd (wantB v_68 true) (fun c => arb (.val (t 8) h75) call c) h75 fun v_76 h77 =>
gd (wantB v_68 true) (fun c => arb (.of (aBin P .eql 3 (.tmp 85) (.tmp 86) v_74 v_76) h77) call c) h77 fun v_78 h79 =>
arb (pkR v_68 v_78 (.bool false) h79) call fun v_80 h81 =>
cb v_80 (
arb (.val (t 7) h81) call fun v_82 h83 =>
arb (.val (t 9) h83) call fun v_84 h85 =>
arb (.val (t 10) h85) call fun v_86 h87 =>
arb (.val (t 8) h87) call fun v_88 h89 =>
arb (.of (bldR [(.int .i64 0), (.int .i64 0), (.int .i64 0)] [(0, 1, v_84), (1, 1, v_86), (2, 1, v_88)]) h89) call fun v_90 h91 =>
arb (bslR 3 [(.int .i64 0), (.int .i64 0), (.int .i64 0)] 1 h91 [(0, 3, v_90)]) call fun v_92 h93 =>
arb (appR 3 24 h93 v_82 v_92) call fun v_94 h95 =>
arb (.val v_94 h95) call fun out_96 h97 =>
k .normal (upd (upd (upd (upd (upd (upd (upd (upd (upd (upd (upd (upd (upd (upd (upd (upd (upd (upd t 79 v_62) 80 v_64) 81 v_66) 82 v_68) 83 v_70) 84 v_72) 85 v_74) 86 v_76) 87 v_78) 88 v_80) 89 v_82) 90 v_84) 91 v_86) 92 v_88) 93 v_90) 94 v_92) 95 v_94) 7 out_96) h97) (
k .normal (upd (upd (upd (upd (upd (upd (upd (upd (upd (upd t 79 v_62) 80 v_64) 81 v_66) 82 v_68) 83 v_70) 84 v_72) 85 v_74) 86 v_76) 87 v_78) 88 v_80) h81)

def J_precentorref9_Chain_15 (P : Program) (call : FuncId → List AVal → Heap → Res AVal) (fuel : Nat) (k : Kn (Ex × T)) (t : T) (h : Heap) : Res (Ex × T) :=
arb (.val (t 13) h) call fun v_102 h103 =>
arb (.of (aBin P .add 3 (.tmp 65) (.const (.int .i64 1)) v_102 (.int .i64 1)) h103) call fun v_104 h105 =>
arb (.val v_104 h105) call fun c_106 h107 =>
k .normal (upd (upd (upd t 65 v_102) 66 v_104) 13 c_106) h107

def J_precentorref9_Chain_14 (P : Program) (call : FuncId → List AVal → Heap → Res AVal) (fuel : Nat) (k : Kn (Ex × T)) (t : T) (h : Heap) : Res (Ex × T) :=
lt (sqK (J_precentorref9_Chain_15 P call fuel k) k) fun k108 =>
lt (blkK 9 k108) fun k109 =>
arb (.val (t 12) h) call fun v_110 h111 =>
arb (.val (t 1) h111) call fun v_112 h113 =>
arb (.val (t 11) h113) call fun v_114 h115 =>
arb (.val (t 13) h115) call fun v_116 h117 =>
arb (.of (ixsR 1 v_114 v_116) h117) call fun v_118 h119 =>
arb (.of (ld1 h119 v_118) h119) call fun v_120 h121 =>
arb (.call F_precentorref9_Of [v_112, v_120] h121) call fun v_122 h123 =>
arb (.of (ixsR 4 v_122 (.int .i64 0)) h123) call fun v_124 h125 =>
arb (.of (fadR 1 v_124) h125) call fun v_126 h127 =>
arb (.of (ld1 h127 v_126) h127) call fun v_128 h129 =>
arb (bslR 1 [(.int .i64 0)] 1 h129 [(0, 1, v_128)]) call fun v_130 h131 =>
arb (appR 1 8 h131 v_110 v_130) call fun v_132 h133 =>
arb (.val v_132 h133) call fun homes_134 h135 =>
k109 .normal (upd (upd (upd (upd (upd (upd (upd (upd (upd (upd (upd (upd (upd t 67 v_110) 68 v_112) 69 v_114) 70 v_116) 71 v_118) 72 v_120) 73 v_122) 74 v_124) 75 v_126) 76 v_128) 77 v_130) 78 v_132) 12 homes_134) h135

def L_precentorref9_Chain_13 (P : Program) (call : FuncId → List AVal → Heap → Res AVal) (fuel : Nat) (t : T) (h : Heap) : Res (Ex × T) :=
lt okK fun k =>
lt (sqK (J_precentorref9_Chain_14 P call fuel k) k) fun k136 =>
arb (.val (t 13) h) call fun v_137 h138 =>
arb (.val (t 11) h138) call fun v_139 h140 =>
arb (.of (lenL v_139) h140) call fun v_141 h142 =>
arb (.of (aBin P .lss 3 (.tmp 61) (.tmp 63) v_137 v_141) h142) call fun v_143 h144 =>
cb v_143 (
k136 .normal (upd (upd (upd (upd t 61 v_137) 62 v_139) 63 v_141) 64 v_143) h144) (
k136 (.exit 8) (upd (upd (upd (upd t 61 v_137) 62 v_139) 63 v_141) 64 v_143) h144)

def J_precentorref9_Chain_10 (P : Program) (call : FuncId → List AVal → Heap → Res AVal) (fuel : Nat) (k : Kn (Ex × T)) (t : T) (h : Heap) : Res (Ex × T) :=
lt (sqK (J_precentorref9_Chain_11 P call fuel k) k) fun k48 =>
lt (blkK 7 k48) fun k49 =>
arb (.val (t 6) h) call fun v_50 h51 =>
arb (.val (t 9) h51) call fun v_52 h53 =>
arb (.val (t 10) h53) call fun v_54 h55 =>
arb (.call F_precentorref9_Shared [v_50, v_52, v_54] h55) call fun v_56 h57 =>
arb (.val v_56 h57) call fun both_58 h59 =>
arb (.val .nils h59) call fun homes_60 h61 =>
lt (sqK (J_precentorref9_Chain_12 P call fuel k49) k49) fun k98 =>
arb (.val (.int .i64 0) h61) call fun c_99 h100 =>
lt (blkK 8 k98) fun k101 =>
(loopN (L_precentorref9_Chain_13 P call fuel) fuel (upd (upd (upd (upd (upd (upd (upd t 57 v_50) 58 v_52) 59 v_54) 60 v_56) 11 both_58) 12 homes_60) 13 c_99) h100).bind (lpK k101)

def L_precentorref9_Chain_9 (P : Program) (call : FuncId → List AVal → Heap → Res AVal) (fuel : Nat) (t : T) (h : Heap) : Res (Ex × T) :=
lt okK fun k =>
lt (sqK (J_precentorref9_Chain_10 P call fuel k) k) fun k145 =>
arb (.val (t 10) h) call fun v_146 h147 =>
arb (.val (t 6) h147) call fun v_148 h149 =>
arb (.of (lenL v_148) h149) call fun v_150 h151 =>
arb (.of (aBin P .lss 3 (.tmp 51) (.tmp 53) v_146 v_150) h151) call fun v_152 h153 =>
cb v_152 (
k145 .normal (upd (upd (upd (upd t 51 v_146) 52 v_148) 53 v_150) 54 v_152) h153) (
k145 (.exit 6) (upd (upd (upd (upd t 51 v_146) 52 v_148) 53 v_150) 54 v_152) h153)

def J_precentorref9_Chain_7 (P : Program) (call : FuncId → List AVal → Heap → Res AVal) (fuel : Nat) (k : Kn (Ex × T)) (t : T) (h : Heap) : Res (Ex × T) :=
lt (sqK (J_precentorref9_Chain_8 P call fuel k) k) fun k35 =>
lt (blkK 5 k35) fun k36 =>
arb (.val (t 9) h) call fun v_37 h38 =>
arb (.val v_37 h38) call fun k_39 h40 =>
lt (blkK 6 k36) fun k41 =>
(loopN (L_precentorref9_Chain_9 P call fuel) fuel (upd (upd t 50 v_37) 10 k_39) h40).bind (lpK k41)

def L_precentorref9_Chain_6 (P : Program) (call : FuncId → List AVal → Heap → Res AVal) (fuel : Nat) (t : T) (h : Heap) : Res (Ex × T) :=
lt okK fun k =>
lt (sqK (J_precentorref9_Chain_7 P call fuel k) k) fun k154 =>
arb (.val (t 9) h) call fun v_155 h156 =>
arb (.val (t 6) h156) call fun v_157 h158 =>
arb (.of (lenL v_157) h158) call fun v_159 h160 =>
arb (.of (aBin P .lss 3 (.tmp 44) (.tmp 46) v_155 v_159) h160) call fun v_161 h162 =>
cb v_161 (
k154 .normal (upd (upd (upd (upd t 44 v_155) 45 v_157) 46 v_159) 47 v_161) h162) (
k154 (.exit 4) (upd (upd (upd (upd t 44 v_155) 45 v_157) 46 v_159) 47 v_161) h162)

def J_precentorref9_Chain_4 (P : Program) (call : FuncId → List AVal → Heap → Res AVal) (fuel : Nat) (k : Kn (Ex × T)) (t : T) (h : Heap) : Res (Ex × T) :=
lt (sqK (J_precentorref9_Chain_5 P call fuel k) k) fun k24 =>
lt (blkK 3 k24) fun k25 =>
arb (.val (.int .i64 0) h) call fun i_26 h27 =>
lt (blkK 4 k25) fun k28 =>
(loopN (L_precentorref9_Chain_6 P call fuel) fuel (upd t 9 i_26) h27).bind (lpK k28)

def L_precentorref9_Chain_3 (P : Program) (call : FuncId → List AVal → Heap → Res AVal) (fuel : Nat) (t : T) (h : Heap) : Res (Ex × T) :=
lt okK fun k =>
lt (sqK (J_precentorref9_Chain_4 P call fuel k) k) fun k163 =>
arb (.val (t 8) h) call fun v_164 h165 =>
arb (.val (t 0) h165) call fun v_166 h167 =>
arb (.of (lenL v_166) h167) call fun v_168 h169 =>
arb (.of (aBin P .leq 3 (.tmp 38) (.tmp 40) v_164 v_168) h169) call fun v_170 h171 =>
cb v_170 (
k163 .normal (upd (upd (upd (upd t 38 v_164) 39 v_166) 40 v_168) 41 v_170) h171) (
k163 (.exit 2) (upd (upd (upd (upd t 38 v_164) 39 v_166) 40 v_168) 41 v_170) h171)

def J_precentorref9_Chain_1 (P : Program) (call : FuncId → List AVal → Heap → Res AVal) (fuel : Nat) (k : Kn (AVal)) (t : T) (h : Heap) : Res (AVal) :=
arb (.val (t 1) h) call fun v_2 h3 =>
arb (.call F_precentorref9_Groups [v_2] h3) call fun v_4 h5 =>
arb (.val v_4 h5) call fun g_6 h7 =>
arb (.val .nils h7) call fun out_8 h9 =>
lt (sqK (J_precentorref9_Chain_2 P call fuel k) k) fun k14 =>
arb (.val (.int .i64 0) h9) call fun b_15 h16 =>
lt (blkK 2 k14) fun k17 =>
(loopN (L_precentorref9_Chain_3 P call fuel) fuel (upd (upd (upd (upd (upd t 36 v_2) 37 v_4) 6 g_6) 7 out_8) 8 b_15) h16).bind (lpK k17)

def J_precentorref9_Chain_18 (P : Program) (call : FuncId → List AVal → Heap → Res AVal) (fuel : Nat) (k : Kn (Ex × T)) (t : T) (h : Heap) : Res (Ex × T) :=
arb (.val (t 5) h) call fun v_176 h177 =>
arb (.of (aBin P .add 3 (.tmp 26) (.const (.int .i64 1)) v_176 (.int .i64 1)) h177) call fun v_178 h179 =>
arb (.val v_178 h179) call fun i_180 h181 =>
k .normal (upd (upd (upd t 26 v_176) 27 v_178) 5 i_180) h181

def J_precentorref9_Chain_17 (P : Program) (call : FuncId → List AVal → Heap → Res AVal) (fuel : Nat) (k : Kn (Ex × T)) (t : T) (h : Heap) : Res (Ex × T) :=
lt (sqK (J_precentorref9_Chain_18 P call fuel k) k) fun k182 =>
lt (blkK 1 k182) fun k183 =>
arb (.val (t 1) h) call fun v_184 h185 =>
arb (.val (t 5) h185) call fun v_186 h187 =>
arb (.of (ixsR 4 v_184 v_186) h187) call fun v_188 h189 =>
arb (.of (fadR 1 v_188) h189) call fun v_190 h191 =>
arb (.of (ld1 h191 v_190) h191) call fun v_192 h193 =>
arb (.val (t 0) h193) call fun v_194 h195 =>
arb (.of (lenL v_194) h195) call fun v_196 h197 =>
arb (.of (aBin P .gtr 3 (.tmp 32) (.tmp 34) v_192 v_196) h197) call fun v_198 h199 =>
cb v_198 (
arb (.val .nils h199) call fun v_200 h201 =>
k183 .ret (upd (upd (upd (upd (upd (upd (upd (upd (upd t 28 v_184) 29 v_186) 30 v_188) 31 v_190) 32 v_192) 33 v_194) 34 v_196) 35 v_198) 4 v_200) h201) (
k183 .normal (upd (upd (upd (upd (upd (upd (upd (upd t 28 v_184) 29 v_186) 30 v_188) 31 v_190) 32 v_192) 33 v_194) 34 v_196) 35 v_198) h199)

def L_precentorref9_Chain_16 (P : Program) (call : FuncId → List AVal → Heap → Res AVal) (fuel : Nat) (t : T) (h : Heap) : Res (Ex × T) :=
lt okK fun k =>
lt (sqK (J_precentorref9_Chain_17 P call fuel k) k) fun k202 =>
arb (.val (t 5) h) call fun v_203 h204 =>
arb (.val (t 1) h204) call fun v_205 h206 =>
arb (.of (lenL v_205) h206) call fun v_207 h208 =>
arb (.of (aBin P .lss 3 (.tmp 22) (.tmp 24) v_203 v_207) h208) call fun v_209 h210 =>
cb v_209 (
k202 .normal (upd (upd (upd (upd t 22 v_203) 23 v_205) 24 v_207) 25 v_209) h210) (
k202 (.exit 0) (upd (upd (upd (upd t 22 v_203) 23 v_205) 24 v_207) 25 v_209) h210)

def J_precentorref9_Chain_0 (P : Program) (call : FuncId → List AVal → Heap → Res AVal) (fuel : Nat) (k : Kn (AVal)) (t : T) (h : Heap) : Res (AVal) :=
lt (sqK (J_precentorref9_Chain_1 P call fuel k) k) fun k172 =>
arb (.val (.int .i64 0) h) call fun i_173 h174 =>
lt (blkK 0 k172) fun k175 =>
(loopN (L_precentorref9_Chain_16 P call fuel) fuel (upd t 5 i_173) h174).bind (lpK k175)

def S_precentorref9_Chain (P : Program) (call : FuncId → List AVal → Heap → Res AVal) (fuel : Nat) (p_a0 l_a1 : AVal) (h : Heap) : Res AVal :=
lt (retK P [.tmp 4]) fun k =>
arb (.val .nils h) call fun v_0 h1 =>
lt (sqK (J_precentorref9_Chain_0 P call fuel k) k) fun k211 =>
arb (.val p_a0 h1) call fun v_212 h213 =>
arb (.call F_precentorref9_RightTree [v_212] h213) call fun v_214 h215 =>
arb (.of (aUn P .not v_214) h215) call fun v_216 h217 =>
arb (.val v_216 h217) call fun v_218 h219 =>
gd (wantB v_218 false) (fun c => arb (.val l_a1 h219) call c) h219 fun v_220 h221 =>
gd (wantB v_218 false) (fun c => arb (.call F_precentorref9_RightSubs [v_220] h221) call c) h221 fun v_222 h223 =>
gd (wantB v_218 false) (fun c => arb (.of (aUn P .not v_222) h223) call c) h223 fun v_224 h225 =>
arb (pkR v_218 (.bool true) v_224 h225) call fun v_226 h227 =>
cb v_226 (
arb (.val .nils h227) call fun v_228 h229 =>
k211 .ret (upd (upd (upd (upd (upd (upd (upd (upd (upd (upd (enterT [p_a0, l_a1]) 4 v_0) 14 v_212) 15 v_214) 16 v_216) 17 v_218) 18 v_220) 19 v_222) 20 v_224) 21 v_226) 4 v_228) h229) (
k211 .normal (upd (upd (upd (upd (upd (upd (upd (upd (upd (enterT [p_a0, l_a1]) 4 v_0) 14 v_212) 15 v_214) 16 v_216) 17 v_218) 18 v_220) 19 v_222) 20 v_224) 21 v_226) h227)
theorem E_precentorref9_Chain (call : FuncId → List AVal → Heap → Res AVal) (fuel : Nat) (p_a0 l_a1 : AVal) (h : Heap) : bodyR Try.prog call fuel Try.f22 [p_a0, l_a1] h = S_precentorref9_Chain Try.prog call fuel p_a0 l_a1 h := by kernel_rfl
theorem R_precentorref9_Chain {X : XTab} (p_a0 l_a1 : AVal) {h : Heap} {Q : AVal → Heap → Prop} (hx : X F_precentorref9_Chain [p_a0, l_a1] = none) (q : Tells (fun m => S_precentorref9_Chain Try.prog (acallX Try.prog X m) m p_a0 l_a1 h) Q) :
    Tells (fun m => acallX Try.prog X m F_precentorref9_Chain [p_a0, l_a1] h) Q :=
  Tells.later (q.le fun m => (E_precentorref9_Chain (acallX Try.prog X m) m p_a0 l_a1 h) ▸ acallX_le Try.func22 hx m h)

/-! ### precentor/precentorref9.Walk -/
def J_precentorref9_Walk_0 (P : Program) (call : FuncId → List AVal → Heap → Res AVal) (fuel : Nat) (k : Kn (AVal)) (t : T) (h : Heap) : Res (AVal) :=
arb (.val (t 5) h) call fun v_4 h5 =>
arb (.val v_4 h5) call fun v_6 h7 =>
k .ret (upd (upd t 33 v_4) 4 v_6) h7

def J_precentorref9_Walk_3 (P : Program) (call : FuncId → List AVal → Heap → Res AVal) (fuel : Nat) (k : Kn (Ex × T)) (t : T) (h : Heap) : Res (Ex × T) :=
arb (.val (t 6) h) call fun v_12 h13 =>
arb (.of (aBin P .add 3 (.tmp 11) (.const (.int .i64 1)) v_12 (.int .i64 1)) h13) call fun v_14 h15 =>
arb (.val v_14 h15) call fun i_16 h17 =>
k .normal (upd (upd (upd t 11 v_12) 12 v_14) 6 i_16) h17

def J_precentorref9_Walk_2 (P : Program) (call : FuncId → List AVal → Heap → Res AVal) (fuel : Nat) (k : Kn (Ex × T)) (t : T) (h : Heap) : Res (Ex × T) :=
lt (sqK (J_precentorref9_Walk_3 P call fuel k) k) fun k18 =>
lt (blkK 1 k18) fun k19 =>
arb (.val (t 1) h) call fun v_20 h21 =>
arb (.val (t 0) h21) call fun v_22 h23 =>
arb (.val (t 6) h23) call fun v_24 h25 =>
arb (.of (ixsR 3 v_22 v_24) h25) call fun v_26 h27 =>
arb (.of (fadR 0 v_26) h27) call fun v_28 h29 =>
arb (.of (ld1 h29 v_28) h29) call fun v_30 h31 =>
arb (.call F_precentorref9_In [v_20, v_30] h31) call fun v_32 h33 =>
arb (.val v_32 h33) call fun v_34 h35 =>
gd (wantB v_34 false) (fun c => arb (.val (t 1) h35) call c) h35 fun v_36 h37 =>
gd (wantB v_34 false) (fun c => arb (.val (t 0) h37) call c) h37 fun v_38 h39 =>
gd (wantB v_34 false) (fun c => arb (.val (t 6) h39) call c) h39 fun v_40 h41 =>
gd (wantB v_34 false) (fun c => arb (.of (ixsR 3 v_38 v_40) h41) call c) h41 fun v_42 h43 =>
gd (wantB v_34 false) (fun c => arb (.of (fadR 1 v_42) h43) call c) h43 fun v_44 h45 =>
gd (wantB v_34 false) (fun c => arb (.of (ld1 h45 v_44) h45) call c) h45 fun v_46 h47 =>
gd (wantB v_34 false) (fun c => arb (.call F_precentorref9_In [v_36, v_46] h47) call c) h47 fun v_48 h49 =>
arb (pkR v_34 (.bool true) v_48 h49) call fun v_50 h51 =>
cb v_50 (
arb (.val (t 5) h51) call fun v_52 h53 =>
arb (.val (t 6) h53) call fun v_54 h55 =>
arb (bslR 1 [(.int .i64 0)] 1 h55 [(0, 1, v_54)]) call fun v_56 h57 =>
arb (appR 1 8 h57 v_52 v_56) call fun v_58 h59 =>
arb (.val v_58 h59) call fun out_60 h61 =>
k19 .normal (upd (upd (upd (upd (upd (upd (upd (upd (upd (upd (upd (upd (upd (upd (upd (upd (upd (upd (upd (upd (upd t 13 v_20) 14 v_22) 15 v_24) 16 v_26) 17 v_28) 18 v_30) 19 v_32) 20 v_34) 21 v_36) 22 v_38) 23 v_40) 24 v_42) 25 v_44) 26 v_46) 27 v_48) 28 v_50) 29 v_52) 30 v_54) 31 v_56) 32 v_58) 5 out_60) h61) (
k19 .normal (upd (upd (upd (upd (upd (upd (upd (upd (upd (upd (upd (upd (upd (upd (upd (upd t 13 v_20) 14 v_22) 15 v_24) 16 v_26) 17 v_28) 18 v_30) 19 v_32) 20 v_34) 21 v_36) 22 v_38) 23 v_40) 24 v_42) 25 v_44) 26 v_46) 27 v_48) 28 v_50) h51)

def L_precentorref9_Walk_1 (P : Program) (call : FuncId → List AVal → Heap → Res AVal) (fuel : Nat) (t : T) (h : Heap) : Res (Ex × T) :=
lt okK fun k =>
lt (sqK (J_precentorref9_Walk_2 P call fuel k) k) fun k62 =>
arb (.val (t 6) h) call fun v_63 h64 =>
arb (.val (t 0) h64) call fun v_65 h66 =>
arb (.of (lenL v_65) h66) call fun v_67 h68 =>
arb (.of (aBin P .lss 3 (.tmp 7) (.tmp 9) v_63 v_67) h68) call fun v_69 h70 =>
cb v_69 (
k62 .normal (upd (upd (upd (upd t 7 v_63) 8 v_65) 9 v_67) 10 v_69) h70) (
k62 (.exit 0) (upd (upd (upd (upd t 7 v_63) 8 v_65) 9 v_67) 10 v_69) h70)

def S_precentorref9_Walk (P : Program) (call : FuncId → List AVal → Heap → Res AVal) (fuel : Nat) (c_a0 m_a1 : AVal) (h : Heap) : Res AVal :=
lt (retK P [.tmp 4]) fun k =>
arb (.val .nils h) call fun v_0 h1 =>
arb (.val .nils h1) call fun out_2 h3 =>
lt (sqK (J_precentorref9_Walk_0 P call fuel k) k) fun k8 =>
arb (.val (.int .i64 0) h3) call fun i_9 h10 =>
lt (blkK 0 k8) fun k11 =>
(loopN (L_precentorref9_Walk_1 P call fuel) fuel (upd (upd (upd (enterT [c_a0, m_a1]) 4 v_0) 5 out_2) 6 i_9) h10).bind (lpK k11)
theorem E_precentorref9_Walk (call : FuncId → List AVal → Heap → Res AVal) (fuel : Nat) (c_a0 m_a1 : AVal) (h : Heap) : bodyR Try.prog call fuel Try.f23 [c_a0, m_a1] h = S_precentorref9_Walk Try.prog call fuel c_a0 m_a1 h := by kernel_rfl
theorem R_precentorref9_Walk {X : XTab} (c_a0 m_a1 : AVal) {h : Heap} {Q : AVal → Heap → Prop} (hx : X F_precentorref9_Walk [c_a0, m_a1] = none) (q : Tells (fun m => S_precentorref9_Walk Try.prog (acallX Try.prog X m) m c_a0 m_a1 h) Q) :
    Tells (fun m => acallX Try.prog X m F_precentorref9_Walk [c_a0, m_a1] h) Q :=
  Tells.later (q.le fun m => (E_precentorref9_Walk (acallX Try.prog X m) m c_a0 m_a1 h) ▸ acallX_le Try.func23 hx m h)

/-! ### precentor/precentorref9.Match -/
def J_precentorref9_Match_0 (P : Program) (call : FuncId → List AVal → Heap → Res AVal) (fuel : Nat) (k : Kn (AVal)) (t : T) (h : Heap) : Res (AVal) :=
arb (.val (t 5) h) call fun v_4 h5 =>
arb (.val v_4 h5) call fun v_6 h7 =>
k .ret (upd (upd t 24 v_4) 4 v_6) h7

def J_precentorref9_Match_3 (P : Program) (call : FuncId → List AVal → Heap → Res AVal) (fuel : Nat) (k : Kn (Ex × T)) (t : T) (h : Heap) : Res (Ex × T) :=
arb (.val (t 6) h) call fun v_12 h13 =>
arb (.of (aBin P .add 3 (.tmp 11) (.const (.int .i64 1)) v_12 (.int .i64 1)) h13) call fun v_14 h15 =>
arb (.val v_14 h15) call fun i_16 h17 =>
k .normal (upd (upd (upd t 11 v_12) 12 v_14) 6 i_16) h17

def J_precentorref9_Match_2 (P : Program) (call : FuncId → List AVal → Heap → Res AVal) (fuel : Nat) (k : Kn (Ex × T)) (t : T) (h : Heap) : Res (Ex × T) :=
lt (sqK (J_precentorref9_Match_3 P call fuel k) k) fun k18 =>
lt (blkK 1 k18) fun k19 =>
arb (.val (t 0) h) call fun v_20 h21 =>
arb (.val (t 6) h21) call fun v_22 h23 =>
arb (.of (ixsR 2 v_20 v_22) h23) call fun v_24 h25 =>
arb (.of (fadR 0 v_24) h25) call fun v_26 h27 =>
arb (.of (ld1 h27 v_26) h27) call fun v_28 h29 =>
arb (.val (t 1) h29) call fun v_30 h31 =>
arb (.call F_precentorref1_Takes [v_28, v_30] h31) call fun v_32 h33 =>
cb v_32 (
arb (.val (t 5) h33) call fun v_34 h35 =>
arb (.val (t 6) h35) call fun v_36 h37 =>
arb (bslR 1 [(.int .i64 0)] 1 h37 [(0, 1, v_36)]) call fun v_38 h39 =>
arb (appR 1 8 h39 v_34 v_38) call fun v_40 h41 =>
arb (.val v_40 h41) call fun out_42 h43 =>
k19 .normal (upd (upd (upd (upd (upd (upd (upd (upd (upd (upd (upd (upd t 13 v_20) 14 v_22) 15 v_24) 16 v_26) 17 v_28) 18 v_30) 19 v_32) 20 v_34) 21 v_36) 22 v_38) 23 v_40) 5 out_42) h43) (
k19 .normal (upd (upd (upd (upd (upd (upd (upd t 13 v_20) 14 v_22) 15 v_24) 16 v_26) 17 v_28) 18 v_30) 19 v_32) h33)

def L_precentorref9_Match_1 (P : Program) (call : FuncId → List AVal → Heap → Res AVal) (fuel : Nat) (t : T) (h : Heap) : Res (Ex × T) :=
lt okK fun k =>
lt (sqK (J_precentorref9_Match_2 P call fuel k) k) fun k44 =>
arb (.val (t 6) h) call fun v_45 h46 =>
arb (.val (t 0) h46) call fun v_47 h48 =>
arb (.of (lenL v_47) h48) call fun v_49 h50 =>
arb (.of (aBin P .lss 3 (.tmp 7) (.tmp 9) v_45 v_49) h50) call fun v_51 h52 =>
cb v_51 (
k44 .normal (upd (upd (upd (upd t 7 v_45) 8 v_47) 9 v_49) 10 v_51) h52) (
k44 (.exit 0) (upd (upd (upd (upd t 7 v_45) 8 v_47) 9 v_49) 10 v_51) h52)

def S_precentorref9_Match (P : Program) (call : FuncId → List AVal → Heap → Res AVal) (fuel : Nat) (g_a0 a_a1 : AVal) (h : Heap) : Res AVal :=
lt (retK P [.tmp 4]) fun k =>
arb (.val .nils h) call fun v_0 h1 =>
arb (.val .nils h1) call fun out_2 h3 =>
lt (sqK (J_precentorref9_Match_0 P call fuel k) k) fun k8 =>
arb (.val (.int .i64 0) h3) call fun i_9 h10 =>
lt (blkK 0 k8) fun k11 =>
(loopN (L_precentorref9_Match_1 P call fuel) fuel (upd (upd (upd (enterT [g_a0, a_a1]) 4 v_0) 5 out_2) 6 i_9) h10).bind (lpK k11)
theorem E_precentorref9_Match (call : FuncId → List AVal → Heap → Res AVal) (fuel : Nat) (g_a0 a_a1 : AVal) (h : Heap) : bodyR Try.prog call fuel Try.f24 [g_a0, a_a1] h = S_precentorref9_Match Try.prog call fuel g_a0 a_a1 h := by kernel_rfl
theorem R_precentorref9_Match {X : XTab} (g_a0 a_a1 : AVal) {h : Heap} {Q : AVal → Heap → Prop} (hx : X F_precentorref9_Match [g_a0, a_a1] = none) (q : Tells (fun m => S_precentorref9_Match Try.prog (acallX Try.prog X m) m g_a0 a_a1 h) Q) :
    Tells (fun m => acallX Try.prog X m F_precentorref9_Match [g_a0, a_a1] h) Q :=
  Tells.later (q.le fun m => (E_precentorref9_Match (acallX Try.prog X m) m g_a0 a_a1 h) ▸ acallX_le Try.func24 hx m h)

/-! ### precentor/precentorref9.Groups -/
def J_precentorref9_Groups_0 (P : Program) (call : FuncId → List AVal → Heap → Res AVal) (fuel : Nat) (k : Kn (AVal)) (t : T) (h : Heap) : Res (AVal) :=
arb (.val (t 3) h) call fun v_4 h5 =>
arb (.val v_4 h5) call fun v_6 h7 =>
k .ret (upd (upd t 63 v_4) 2 v_6) h7

def J_precentorref9_Groups_3 (P : Program) (call : FuncId → List AVal → Heap → Res AVal) (fuel : Nat) (k : Kn (Ex × T)) (t : T) (h : Heap) : Res (Ex × T) :=
arb (.val (t 4) h) call fun v_12 h13 =>
arb (.of (aBin P .add 3 (.tmp 11) (.const (.int .i64 1)) v_12 (.int .i64 1)) h13) call fun v_14 h15 =>
arb (.val v_14 h15) call fun i_16 h17 =>
k .normal (upd (upd (upd t 11 v_12) 12 v_14) 4 i_16) h17

def J_precentorref9_Groups_5 (P : Program) (call : FuncId → List AVal → Heap → Res AVal) (fuel : Nat) (k : Kn (Ex × T)) (t : T) (h : Heap) : Res (Ex × T) :=
obv (.val (t 3) h) fun v_22 =>
obv (.val (t 5) h) fun v_24 =>
obv (.val (t 3) h) fun v_26 =>
obv (.val (t 5) h) fun v_28 =>
obv (.of (ixsR 2 v_26 v_28) h) fun v_30 =>
obv (.of (fadR 1 v_30) h) fun v_32 =>
obv (.of (ld1 h v_32) h) fun v_34 => ifb true <|
obv (.val (t 0) h) fun v_36 =>
obv (.val (t 4) h) fun v_38 =>
obv (.of (ixsR 4 v_36 v_38) h) fun v_40 =>
obv (.of (fadR 0 v_40) h) fun v_42 =>
obv (.of (ld1 h v_42) h) fun v_44 => ifb true <|
arbE (.call F_precentorref9_Put [v_34, v_44] h) call fun v_46 h47 => lt h47 fun g47 => ifb (true && true) <|
obv (.of (ixsR 2 v_22 v_24) g47) fun v_48 =>
obv (.of (fadR 1 v_48) g47) fun v_50 =>
arbE (stR 1 g47 v_50 v_46) call fun v_52 h53 => lt h53 fun g53 => ifb (true && true) <|
k .normal (upd (upd (upd (upd (upd (upd (upd (upd (upd (upd (upd (upd (upd (upd (upd t 48 v_22) 49 v_24) 50 v_26) 51 v_28) 52 v_30) 53 v_32) 54 v_34) 55 v_36) 56 v_38) 57 v_40) 58 v_42) 59 v_44) 60 v_46) 61 v_48) 62 v_50) g53

def J_precentorref9_Groups_4 (P : Program) (call : FuncId → List AVal → Heap → Res AVal) (fuel : Nat) (k : Kn (Ex × T)) (t : T) (h : Heap) : Res (Ex × T) :=
lt (sqK (J_precentorref9_Groups_5 P call fuel k) k) fun k54 =>
arb (.val (t 5) h) call fun v_55 h56 =>
arb (.of (aBin P .lss 3 (.tmp 35) (.const (.int .i64 0)) v_55 (.int .i64 0)) h56) call fun v_57 h58 =>
cb v_57 (
arb (.val (t 3) h58) call fun v_59 h60 =>
arb (.of (lenL v_59) h60) call fun v_61 h62 =>
arb (.val v_61 h62) call fun at_63 h64 =>
arb (.val (t 3) h64) call fun v_65 h66 =>
arb (.val (t 0) h66) call fun v_67 h68 =>
arb (.val (t 4) h68) call fun v_69 h70 =>
arb (.of (ixsR 4 v_67 v_69) h70) call fun v_71 h72 =>
arb (.of (fadR 3 v_71) h72) call fun v_73 h74 =>
arb (.of (ld1 h74 v_73) h74) call fun v_75 h76 =>
arb (.of (bldR [.nils, .nils] [(0, 1, v_75)]) h76) call fun v_77 h78 =>
arb (bslR 2 [.nils, .nils] 1 h78 [(0, 2, v_77)]) call fun v_79 h80 =>
arb (appR 2 48 h80 v_65 v_79) call fun v_81 h82 =>
arb (.val v_81 h82) call fun out_83 h84 =>
k54 .normal (upd (upd (upd (upd (upd (upd (upd (upd (upd (upd (upd (upd (upd (upd (upd t 35 v_55) 36 v_57) 37 v_59) 38 v_61) 5 at_63) 39 v_65) 40 v_67) 41 v_69) 42 v_71) 43 v_73) 44 v_75) 45 v_77) 46 v_79) 47 v_81) 3 out_83) h84) (
k54 .normal (upd (upd t 35 v_55) 36 v_57) h58)

def J_precentorref9_Groups_8 (P : Program) (call : FuncId → List AVal → Heap → Res AVal) (fuel : Nat) (k : Kn (Ex × T)) (t : T) (h : Heap) : Res (Ex × T) :=
arb (.val (t 6) h) call fun v_89 h90 =>
arb (.of (aBin P .add 3 (.tmp 17) (.const (.int .i64 1)) v_89 (.int .i64 1)) h90) call fun v_91 h92 =>
arb (.val v_91 h92) call fun k_93 h94 =>
k .normal (upd (upd (upd t 17 v_89) 18 v_91) 6 k_93) h94

def J_precentorref9_Groups_7 (P : Program) (call : FuncId → List AVal → Heap → Res AVal) (fuel : Nat) (k : Kn (Ex × T)) (t : T) (h : Heap) : Res (Ex × T) :=
lt (sqK (J_precentorref9_Groups_8 P call fuel k) k) fun k95 =>
lt (blkK 3 k95) fun k96 =>
obv (.val (t 5) h) fun v_97 =>
obv (.of (aBin P .lss 3 (.tmp 19) (.const (.int .i64 0)) v_97 (.int .i64 0)) h) fun v_99 =>
obv (.val v_99 h) fun v_101 =>
gdr (wantB v_101 true) (fun c => obv (.val (t 3) h) fun v_103 =>
c true v_103 h) h fun w105 v_103 h105 =>
gdr (wantB v_101 true) (fun c => obv (.val (t 6) h105) fun v_106 =>
c true v_106 h105) h105 fun w108 v_106 h108 =>
gdr (wantB v_101 true) (fun c => obv (.of (ixsR 2 v_103 v_106) h108) fun v_109 =>
c true v_109 h108) h108 fun w111 v_109 h111 =>
gdr (wantB v_101 true) (fun c => obv (.of (fadR 0 v_109) h111) fun v_112 =>
c true v_112 h111) h111 fun w114 v_112 h114 =>
gdr (wantB v_101 true) (fun c => obv (.of (ld1 h114 v_112) h114) fun v_115 => ifb true <|
c true v_115 h114) h114 fun w117 v_115 h117 =>
gdr (wantB v_101 true) (fun c => obv (.val (t 0) h117) fun v_118 =>
c true v_118 h117) h117 fun w120 v_118 h120 =>
gdr (wantB v_101 true) (fun c => obv (.val (t 4) h120) fun v_121 =>
c true v_121 h120) h120 fun w123 v_121 h123 =>
gdr (wantB v_101 true) (fun c => obv (.of (ixsR 4 v_118 v_121) h123) fun v_124 =>
c true v_124 h123) h123 fun w126 v_124 h126 =>
gdr (wantB v_101 true) (fun c => obv (.of (fadR 3 v_124) h126) fun v_127 =>
c true v_127 h126) h126 fun w129 v_127 h129 =>
gdr (wantB v_101 true) (fun c => obv (.of (ld1 h129 v_127) h129) fun v_130 => ifb true <|
c true v_130 h129) h129 fun w132 v_130 h132 =>
gdr (wantB v_101 true) (fun c => arbE (.call F_precentorref1_SameFilter [v_115, v_130] h132) call fun v_133 h134 => lt h134 fun g134 => ifb (true && true) <|
c true v_133 g134) h132 fun w135 v_133 h135 =>
obv (pkR v_101 v_133 (.bool false) h135) fun v_136 =>
cb v_136 (
arb (.val (t 6) h135) call fun v_138 h139 =>
arb (.val v_138 h139) call fun at_140 h141 =>
k96 .normal (upd (upd (upd (upd (upd (upd (upd (upd (upd (upd (upd (upd (upd (upd (upd (upd (upd t 19 v_97) 20 v_99) 21 v_101) 22 v_103) 23 v_106) 24 v_109) 25 v_112) 26 v_115) 27 v_118) 28 v_121) 29 v_124) 30 v_127) 31 v_130) 32 v_133) 33 v_136) 34 v_138) 5 at_140) h141) (
k96 .normal (upd (upd (upd (upd (upd (upd (upd (upd (upd (upd (upd (upd (upd (upd (upd t 19 v_97) 20 v_99) 21 v_101) 22 v_103) 23 v_106) 24 v_109) 25 v_112) 26 v_115) 27 v_118) 28 v_121) 29 v_124) 30 v_127) 31 v_130) 32 v_133) 33 v_136) h135)

def L_precentorref9_Groups_6 (P : Program) (call : FuncId → List AVal → Heap → Res AVal) (fuel : Nat) (t : T) (h : Heap) : Res (Ex × T) :=
lt okK fun k =>
lt (sqK (J_precentorref9_Groups_7 P call fuel k) k) fun k142 =>
arb (.val (t 6) h) call fun v_143 h144 =>
arb (.val (t 3) h144) call fun v_145 h146 =>
arb (.of (lenL v_145) h146) call fun v_147 h148 =>
arb (.of (aBin P .lss 3 (.tmp 13) (.tmp 15) v_143 v_147) h148) call fun v_149 h150 =>
cb v_149 (
k142 .normal (upd (upd (upd (upd t 13 v_143) 14 v_145) 15 v_147) 16 v_149) h150) (
k142 (.exit 2) (upd (upd (upd (upd t 13 v_143) 14 v_145) 15 v_147) 16 v_149) h150)

def J_precentorref9_Groups_2 (P : Program) (call : FuncId → List AVal → Heap → Res AVal) (fuel : Nat) (k : Kn (Ex × T)) (t : T) (h : Heap) : Res (Ex × T) :=
lt (sqK (J_precentorref9_Groups_3 P call fuel k) k) fun k18 =>
lt (blkK 1 k18) fun k19 =>
arb (.val (.int .i64 (-1)) h) call fun at_20 h21 =>
lt (sqK (J_precentorref9_Groups_4 P call fuel k19) k19) fun k85 =>
arb (.val (.int .i64 0) h21) call fun k_86 h87 =>
lt (blkK 2 k85) fun k88 =>
(loopN (L_precentorref9_Groups_6 P call fuel) fuel (upd (upd t 5 at_20) 6 k_86) h87).bind (lpK k88)

def L_precentorref9_Groups_1 (P : Program) (call : FuncId → List AVal → Heap → Res AVal) (fuel : Nat) (t : T) (h : Heap) : Res (Ex × T) :=
lt okK fun k =>
lt (sqK (J_precentorref9_Groups_2 P call fuel k) k) fun k151 =>
arb (.val (t 4) h) call fun v_152 h153 =>
arb (.val (t 0) h153) call fun v_154 h155 =>
arb (.of (lenL v_154) h155) call fun v_156 h157 =>
arb (.of (aBin P .lss 3 (.tmp 7) (.tmp 9) v_152 v_156) h157) call fun v_158 h159 =>
cb v_158 (
k151 .normal (upd (upd (upd (upd t 7 v_152) 8 v_154) 9 v_156) 10 v_158) h159) (
k151 (.exit 0) (upd (upd (upd (upd t 7 v_152) 8 v_154) 9 v_156) 10 v_158) h159)

def S_precentorref9_Groups (P : Program) (call : FuncId → List AVal → Heap → Res AVal) (fuel : Nat) (l_a0 : AVal) (h : Heap) : Res AVal :=
lt (retK P [.tmp 2]) fun k =>
arb (.val .nils h) call fun v_0 h1 =>
arb (.val .nils h1) call fun out_2 h3 =>
lt (sqK (J_precentorref9_Groups_0 P call fuel k) k) fun k8 =>
arb (.val (.int .i64 0) h3) call fun i_9 h10 =>
lt (blkK 0 k8) fun k11 =>
(loopN (L_precentorref9_Groups_1 P call fuel) fuel (upd (upd (upd (enterT [l_a0]) 2 v_0) 3 out_2) 4 i_9) h10).bind (lpK k11)
theorem E_precentorref9_Groups (call : FuncId → List AVal → Heap → Res AVal) (fuel : Nat) (l_a0 : AVal) (h : Heap) : bodyR Try.prog call fuel Try.f25 [l_a0] h = S_precentorref9_Groups Try.prog call fuel l_a0 h := by kernel_rfl
theorem R_precentorref9_Groups {X : XTab} (l_a0 : AVal) {h : Heap} {Q : AVal → Heap → Prop} (hx : X F_precentorref9_Groups [l_a0] = none) (q : Tells (fun m => S_precentorref9_Groups Try.prog (acallX Try.prog X m) m l_a0 h) Q) :
    Tells (fun m => acallX Try.prog X m F_precentorref9_Groups [l_a0] h) Q :=
  Tells.later (q.le fun m => (E_precentorref9_Groups (acallX Try.prog X m) m l_a0 h) ▸ acallX_le Try.func25 hx m h)

/-! ### precentor/precentorref9.In -/
def J_precentorref9_In_0 (P : Program) (call : FuncId → List AVal → Heap → Res AVal) (fuel : Nat) (k : Kn (AVal)) (t : T) (h : Heap) : Res (AVal) :=
arb (.val (.bool false) h) call fun v_2 h3 =>
k .ret (upd t 4 v_2) h3

def J_precentorref9_In_3 (P : Program) (call : FuncId → List AVal → Heap → Res AVal) (fuel : Nat) (k : Kn (Ex × T)) (t : T) (h : Heap) : Res (Ex × T) :=
arb (.val (t 5) h) call fun v_8 h9 =>
arb (.of (aBin P .add 3 (.tmp 10) (.const (.int .i64 1)) v_8 (.int .i64 1)) h9) call fun v_10 h11 =>
arb (.val v_10 h11) call fun i_12 h13 =>
k .normal (upd (upd (upd t 10 v_8) 11 v_10) 5 i_12) h13

def J_precentorref9_In_2 (P : Program) (call : FuncId → List AVal → Heap → Res AVal) (fuel : Nat) (k : Kn (Ex × T)) (t : T) (h : Heap) : Res (Ex × T) :=
lt (sqK (J_precentorref9_In_3 P call fuel k) k) fun k14 =>
lt (blkK 1 k14) fun k15 =>
arb (.val (t 0) h) call fun v_16 h17 =>
arb (.val (t 5) h17) call fun v_18 h19 =>
arb (.of (ixsR 1 v_16 v_18) h19) call fun v_20 h21 =>
arb (.of (ld1 h21 v_20) h21) call fun v_22 h23 =>
arb (.val (t 1) h23) call fun v_24 h25 =>
arb (.of (aBin P .eql 3 (.tmp 15) (.tmp 16) v_22 v_24) h25) call fun v_26 h27 =>
cb v_26 (
arb (.val (.bool true) h27) call fun v_28 h29 =>
k15 .ret (upd (upd (upd (upd (upd (upd (upd t 12 v_16) 13 v_18) 14 v_20) 15 v_22) 16 v_24) 17 v_26) 4 v_28) h29) (
k15 .normal (upd (upd (upd (upd (upd (upd t 12 v_16) 13 v_18) 14 v_20) 15 v_22) 16 v_24) 17 v_26) h27)

def L_precentorref9_In_1 (P : Program) (call : FuncId → List AVal → Heap → Res AVal) (fuel : Nat) (t : T) (h : Heap) : Res (Ex × T) :=
lt okK fun k =>
lt (sqK (J_precentorref9_In_2 P call fuel k) k) fun k30 =>
arb (.val (t 5) h) call fun v_31 h32 =>
arb (.val (t 0) h32) call fun v_33 h34 =>
arb (.of (lenL v_33) h34) call fun v_35 h36 =>
arb (.of (aBin P .lss 3 (.tmp 6) (.tmp 8) v_31 v_35) h36) call fun v_37 h38 =>
cb v_37 (
k30 .normal (upd (upd (upd (upd t 6 v_31) 7 v_33) 8 v_35) 9 v_37) h38) (
k30 (.exit 0) (upd (upd (upd (upd t 6 v_31) 7 v_33) 8 v_35) 9 v_37) h38)

def S_precentorref9_In (P : Program) (call : FuncId → List AVal → Heap → Res AVal) (fuel : Nat) (l_a0 n_a1 : AVal) (h : Heap) : Res AVal :=
lt (retK P [.tmp 4]) fun k =>
arb (.val (.bool false) h) call fun v_0 h1 =>
lt (sqK (J_precentorref9_In_0 P call fuel k) k) fun k4 =>
arb (.val (.int .i64 0) h1) call fun i_5 h6 =>
lt (blkK 0 k4) fun k7 =>
(loopN (L_precentorref9_In_1 P call fuel) fuel (upd (upd (enterT [l_a0, n_a1]) 4 v_0) 5 i_5) h6).bind (lpK k7)
theorem E_precentorref9_In (call : FuncId → List AVal → Heap → Res AVal) (fuel : Nat) (l_a0 n_a1 : AVal) (h : Heap) : bodyR Try.prog call fuel Try.f29 [l_a0, n_a1] h = S_precentorref9_In Try.prog call fuel l_a0 n_a1 h := by kernel_rfl
theorem R_precentorref9_In {X : XTab} (l_a0 n_a1 : AVal) {h : Heap} {Q : AVal → Heap → Prop} (hx : X F_precentorref9_In [l_a0, n_a1] = none) (q : Tells (fun m => S_precentorref9_In Try.prog (acallX Try.prog X m) m l_a0 n_a1 h) Q) :
    Tells (fun m => acallX Try.prog X m F_precentorref9_In [l_a0, n_a1] h) Q :=
  Tells.later (q.le fun m => (E_precentorref9_In (acallX Try.prog X m) m l_a0 n_a1 h) ▸ acallX_le Try.func29 hx m h)

/-! ### precentor/precentorref9.RightTree -/
def J_precentorref9_RightTree_0 (P : Program) (call : FuncId → List AVal → Heap → Res AVal) (fuel : Nat) (k : Kn (AVal)) (t : T) (h : Heap) : Res (AVal) :=
arb (.val (t 0) h) call fun v_2 h3 =>
arb (.of (lenL v_2) h3) call fun v_4 h5 =>
arb (.of (aBin P .leq 3 (.tmp 24) (.const (.int .i64 7)) v_4 (.int .i64 7)) h5) call fun v_6 h7 =>
arb (.val v_6 h7) call fun v_8 h9 =>
k .ret (upd (upd (upd (upd t 23 v_2) 24 v_4) 25 v_6) 2 v_8) h9

def J_precentorref9_RightTree_3 (P : Program) (call : FuncId → List AVal → Heap → Res AVal) (fuel : Nat) (k : Kn (Ex × T)) (t : T) (h : Heap) : Res (Ex × T) :=
arb (.val (t 3) h) call fun v_14 h15 =>
arb (.of (aBin P .add 3 (.tmp 8) (.const (.int .i64 1)) v_14 (.int .i64 1)) h15) call fun v_16 h17 =>
arb (.val v_16 h17) call fun i_18 h19 =>
k .normal (upd (upd (upd t 8 v_14) 9 v_16) 3 i_18) h19

def J_precentorref9_RightTree_2 (P : Program) (call : FuncId → List AVal → Heap → Res AVal) (fuel : Nat) (k : Kn (Ex × T)) (t : T) (h : Heap) : Res (Ex × T) :=
lt (sqK (J_precentorref9_RightTree_3 P call fuel k) k) fun k20 =>
lt (blkK 1 k20) fun k21 =>
arb (.val (t 0) h) call fun v_22 h23 =>
arb (.val (t 3) h23) call fun v_24 h25 =>
arb (.of (ixsR 1 v_22 v_24) h25) call fun v_26 h27 =>
arb (.of (ld1 h27 v_26) h27) call fun v_28 h29 =>
arb (.of (aBin P .lss 3 (.tmp 13) (.const (.int .i64 0)) v_28 (.int .i64 0)) h29) call fun v_30 h31 =>
arb (.val v_30 h31) call fun v_32 h33 =>
gd (wantB v_32 false) (fun c => arb (.val (t 0) h33) call c) h33 fun v_34 h35 =>
gd (wantB v_32 false) (fun c => arb (.val (t 3) h35) call c) h35 fun v_36 h37 =>
gd (wantB v_32 false) (fun c => arb (.of (ixsR 1 v_34 v_36) h37) call c) h37 fun v_38 h39 =>
gd (wantB v_32 false) (fun c => arb (.of (ld1 h39 v_38) h39) call c) h39 fun v_40 h41 =>
gd (wantB v_32 false) (fun c => arb (.val (t 3) h41) call c) h41 fun v_42 h43 =>
gd (wantB v_32 false) (fun c => arb (.of (aBin P .gtr 3 (.tmp 19) (.tmp 20) v_40 v_42) h43) call c) h43 fun v_44 h45 =>
arb (pkR v_32 (.bool true) v_44 h45) call fun v_46 h47 =>
cb v_46 (
arb (.val (.bool false) h47) call fun v_48 h49 =>
k21 .ret (upd (upd (upd (upd (upd (upd (upd (upd (upd (upd (upd (upd (upd (upd t 10 v_22) 11 v_24) 12 v_26) 13 v_28) 14 v_30) 15 v_32) 16 v_34) 17 v_36) 18 v_38) 19 v_40) 20 v_42) 21 v_44) 22 v_46) 2 v_48) h49) (
k21 .normal (upd (upd (upd (upd (upd (upd (upd (upd (upd (upd (upd (upd (upd t 10 v_22) 11 v_24) 12 v_26) 13 v_28) 14 v_30) 15 v_32) 16 v_34) 17 v_36) 18 v_38) 19 v_40) 20 v_42) 21 v_44) 22 v_46) h47)

def L_precentorref9_RightTree_1 (P : Program) (call : FuncId → List AVal → Heap → Res AVal) (fuel : Nat) (t : T) (h : Heap) : Res (Ex × T) :=
lt okK fun k =>
lt (sqK (J_precentorref9_RightTree_2 P call fuel k) k) fun k50 =>
arb (.val (t 3) h) call fun v_51 h52 =>
arb (.val (t 0) h52) call fun v_53 h54 =>
arb (.of (lenL v_53) h54) call fun v_55 h56 =>
arb (.of (aBin P .lss 3 (.tmp 4) (.tmp 6) v_51 v_55) h56) call fun v_57 h58 =>
cb v_57 (
k50 .normal (upd (upd (upd (upd t 4 v_51) 5 v_53) 6 v_55) 7 v_57) h58) (
k50 (.exit 0) (upd (upd (upd (upd t 4 v_51) 5 v_53) 6 v_55) 7 v_57) h58)

def S_precentorref9_RightTree (P : Program) (call : FuncId → List AVal → Heap → Res AVal) (fuel : Nat) (p_a0 : AVal) (h : Heap) : Res AVal :=
lt (retK P [.tmp 2]) fun k =>
arb (.val (.bool false) h) call fun v_0 h1 =>
lt (sqK (J_precentorref9_RightTree_0 P call fuel k) k) fun k10 =>
arb (.val (.int .i64 0) h1) call fun i_11 h12 =>
lt (blkK 0 k10) fun k13 =>
(loopN (L_precentorref9_RightTree_1 P call fuel) fuel (upd (upd (enterT [p_a0]) 2 v_0) 3 i_11) h12).bind (lpK k13)
theorem E_precentorref9_RightTree (call : FuncId → List AVal → Heap → Res AVal) (fuel : Nat) (p_a0 : AVal) (h : Heap) : bodyR Try.prog call fuel Try.f33 [p_a0] h = S_precentorref9_RightTree Try.prog call fuel p_a0 h := by kernel_rfl
theorem R_precentorref9_RightTree {X : XTab} (p_a0 : AVal) {h : Heap} {Q : AVal → Heap → Prop} (hx : X F_precentorref9_RightTree [p_a0] = none) (q : Tells (fun m => S_precentorref9_RightTree Try.prog (acallX Try.prog X m) m p_a0 h) Q) :
    Tells (fun m => acallX Try.prog X m F_precentorref9_RightTree [p_a0] h) Q :=
  Tells.later (q.le fun m => (E_precentorref9_RightTree (acallX Try.prog X m) m p_a0 h) ▸ acallX_le Try.func33 hx m h)

/-! ### precentor/precentorref9.RightSubs -/
def J_precentorref9_RightSubs_0 (P : Program) (call : FuncId → List AVal → Heap → Res AVal) (fuel : Nat) (k : Kn (AVal)) (t : T) (h : Heap) : Res (AVal) :=
arb (.val (.bool true) h) call fun v_2 h3 =>
k .ret (upd t 2 v_2) h3

def J_precentorref9_RightSubs_3 (P : Program) (call : FuncId → List AVal → Heap → Res AVal) (fuel : Nat) (k : Kn (Ex × T)) (t : T) (h : Heap) : Res (Ex × T) :=
arb (.val (t 3) h) call fun v_8 h9 =>
arb (.of (aBin P .add 3 (.tmp 9) (.const (.int .i64 1)) v_8 (.int .i64 1)) h9) call fun v_10 h11 =>
arb (.val v_10 h11) call fun i_12 h13 =>
k .normal (upd (upd (upd t 9 v_8) 10 v_10) 3 i_12) h13

def J_precentorref9_RightSubs_5 (P : Program) (call : FuncId → List AVal → Heap → Res AVal) (fuel : Nat) (k : Kn (Ex × T)) (t : T) (h : Heap) : Res (Ex × T) :=
obv (.val (t 3) h) fun v_28 =>
obv (.of (aBin P .gtr 3 (.tmp 73) (.const (.int .i64 0)) v_28 (.int .i64 0)) h) fun v_29 =>
obv (.val v_29 h) fun v_30 =>
gd (wantB v_30 true) (fun c => obv (.val (t 0) h) fun v => c v h) h fun v_31 h32 =>
gd (wantB v_30 true) (fun c => obv (.val (t 3) h32) fun v => c v h32) h32 fun v_33 h34 =>
gd (wantB v_30 true) (fun c => obv (.of (aBin P .sub 3 (.tmp 77) (.const (.int .i64 1)) v_33 (.int .i64 1)) h34) fun v => c v h34) h34 fun v_35 h36 =>
gd (wantB v_30 true) (fun c => obv (.of (ixsR 4 v_31 v_35) h36) fun v => c v h36) h36 fun v_37 h38 =>
gd (wantB v_30 true) (fun c => obv (.of (fadR 0 v_37) h38) fun v => c v h38) h38 fun v_39 h40 =>
gd (wantB v_30 true) (fun c => obv (.of (ld1 h40 v_39) h40) fun v => c v h40) h40 fun v_41 h42 =>
gd (wantB v_30 true) (fun c => obv (.of (fadR 0 (t 4)) h42) fun v => c v h42) h42 fun v_43 h44 =>
gd (wantB v_30 true) (fun c => obv (.of (ld1 h44 v_43) h44) fun v => c v h44) h44 fun v_45 h46 =>
gd (wantB v_30 true) (fun c => obv (.of (aBin P .eql 3 (.tmp 81) (.tmp 83) v_41 v_45) h46) fun v => c v h46) h46 fun v_47 h48 =>
obv (pkR v_30 v_47 (.bool false) h48) fun v_49 =>
obv (.val v_49 h48) fun v_50 =>
gd (wantB v_50 true) (fun c => obv (.val (t 0) h48) fun v => c v h48) h48 fun v_51 h52 =>
gd (wantB v_50 true) (fun c => obv (.val (t 3) h52) fun v => c v h52) h52 fun v_53 h54 =>
gd (wantB v_50 true) (fun c => obv (.of (aBin P .sub 3 (.tmp 88) (.const (.int .i64 1)) v_53 (.int .i64 1)) h54) fun v => c v h54) h54 fun v_55 h56 =>
gd (wantB v_50 true) (fun c => obv (.of (ixsR 4 v_51 v_55) h56) fun v => c v h56) h56 fun v_57 h58 =>
gd (wantB v_50 true) (fun c => obv (.of (fadR 1 v_57) h58) fun v => c v h58) h58 fun v_59 h60 =>
gd (wantB v_50 true) (fun c => obv (.of (ld1 h60 v_59) h60) fun v => c v h60) h60 fun v_61 h62 =>
gd (wantB v_50 true) (fun c => obv (.of (fadR 1 (t 4)) h62) fun v => c v h62) h62 fun v_63 h64 =>
gd (wantB v_50 true) (fun c => obv (.of (ld1 h64 v_63) h64) fun v => c v h64) h64 fun v_65 h66 =>
gd (wantB v_50 true) (fun c => obv (.of (aBin P .neq 3 (.tmp 92) (.tmp 94) v_61 v_65) h66) fun v => c v h66) h66 fun v_67 h68 =>
obv (pkR v_50 v_67 (.bool false) h68) fun v_69 =>
obv (.val v_69 h68) fun v_70 =>
gd (wantB v_70 false) (fun c => obv (.val (t 3) h68) fun v => c v h68) h68 fun v_71 h72 =>
gd (wantB v_70 false) (fun c => obv (.of (aBin P .geq 3 (.tmp 98) (.const (.int .i64 3)) v_71 (.int .i64 3)) h72) fun v => c v h72) h72 fun v_73 h74 =>
gd (wantB v_70 false) (fun c => obv (.val v_73 h74) fun v => c v h74) h74 fun v_75 h76 =>
gd (wantB v_75 true) (fun c => obv (.val (t 0) h76) fun v => c v h76) h76 fun v_77 h78 =>
gd (wantB v_75 true) (fun c => obv (.val (t 3) h78) fun v => c v h78) h78 fun v_79 h80 =>
gd (wantB v_75 true) (fun c => obv (.of (aBin P .sub 3 (.tmp 102) (.const (.int .i64 3)) v_79 (.int .i64 3)) h80) fun v => c v h80) h80 fun v_81 h82 =>
gd (wantB v_75 true) (fun c => obv (.of (ixsR 4 v_77 v_81) h82) fun v => c v h82) h82 fun v_83 h84 =>
gd (wantB v_75 true) (fun c => obv (.of (fadR 0 v_83) h84) fun v => c v h84) h84 fun v_85 h86 =>
gd (wantB v_75 true) (fun c => obv (.of (ld1 h86 v_85) h86) fun v => c v h86) h86 fun v_87 h88 =>
gd (wantB v_75 true) (fun c => obv (.of (fadR 0 (t 4)) h88) fun v => c v h88) h88 fun v_89 h90 =>
gd (wantB v_75 true) (fun c => obv (.of (ld1 h90 v_89) h90) fun v => c v h90) h90 fun v_91 h92 =>
gd (wantB v_75 true) (fun c => obv (.of (aBin P .eql 3 (.tmp 106) (.tmp 108) v_87 v_91) h92) fun v => c v h92) h92 fun v_93 h94 =>
gd (wantB v_70 false) (fun c => obv (pkR v_75 v_93 (.bool false) h94) fun v => c v h94) h94 fun v_95 h96 =>
obv (pkR v_70 (.bool true) v_95 h96) fun v_97 =>
cb v_97 (
arb (.val (.bool false) h96) call fun v_98 h99 =>
k .ret (upd (upd (upd (upd (upd (upd (upd (upd (upd (upd (upd (upd (upd (upd (upd (upd (upd (upd (upd (upd (upd (upd (upd (upd (upd (upd (upd (upd (upd (upd (upd (upd (upd (upd (upd (upd (upd (upd (upd (upd t 73 v_28) 74 v_29) 75 v_30) 76 v_31) 77 v_33) 78 v_35) 79 v_37) 80 v_39) 81 v_41) 82 v_43) 83 v_45) 84 v_47) 85 v_49) 86 v_50) 87 v_51) 88 v_53) 89 v_55) 90 v_57) 91 v_59) 92 v_61) 93 v_63) 94 v_65) 95 v_67) 96 v_69) 97 v_70) 98 v_71) 99 v_73) 100 v_75) 101 v_77) 102 v_79) 103 v_81) 104 v_83) 105 v_85) 106 v_87) 107 v_89) 108 v_91) 109 v_93) 110 v_95) 111 v_97) 2 v_98) h99) (
k .normal (upd (upd (upd (upd (upd (upd (upd (upd (upd (upd (upd (upd (upd (upd (upd (upd (upd (upd (upd (upd (upd (upd (upd (upd (upd (upd (upd (upd (upd (upd (upd (upd (upd (upd (upd (upd (upd (upd (upd t 73 v_28) 74 v_29) 75 v_30) 76 v_31) 77 v_33) 78 v_35) 79 v_37) 80 v_39) 81 v_41) 82 v_43) 83 v_45) 84 v_47) 85 v_49) 86 v_50) 87 v_51) 88 v_53) 89 v_55) 90 v_57) 91 v_59) 92 v_61) 93 v_63) 94 v_65) 95 v_67) 96 v_69) 97 v_70) 98 v_71) 99 v_73) 100 v_75) 101 v_77) 102 v_79) 103 v_81) 104 v_83) 105 v_85) 106 v_87) 107 v_89) 108 v_91) 109 v_93) 110 v_95) 111 v_97) h96)

def J_precentorref9_RightSubs_4 (P : Program) (call : FuncId → List AVal → Heap → Res AVal) (fuel : Nat) (k : Kn (Ex × T)) (t : T) (h : Heap) : Res (Ex × T) :=
lt (sqK (J_precentorref9_RightSubs_5 P call fuel k) k) fun k100 =>
obv (.val (t 3) h) fun v_101 =>
obv (.of (aBin P .gtr 3 (.tmp 37) (.const (.int .i64 0)) v_101 (.int .i64 0)) h) fun v_102 =>
obv (.val v_102 h) fun v_103 =>
gd (wantB v_103 true) (fun c => obv (.val (t 0) h) fun v => c v h) h fun v_104 h105 =>
gd (wantB v_103 true) (fun c => obv (.val (t 3) h105) fun v => c v h105) h105 fun v_106 h107 =>
gd (wantB v_103 true) (fun c => obv (.of (aBin P .sub 3 (.tmp 41) (.const (.int .i64 1)) v_106 (.int .i64 1)) h107) fun v => c v h107) h107 fun v_108 h109 =>
gd (wantB v_103 true) (fun c => obv (.of (ixsR 4 v_104 v_108) h109) fun v => c v h109) h109 fun v_110 h111 =>
gd (wantB v_103 true) (fun c => obv (.of (fadR 0 v_110) h111) fun v => c v h111) h111 fun v_112 h113 =>
gd (wantB v_103 true) (fun c => obv (.of (ld1 h113 v_112) h113) fun v => c v h113) h113 fun v_114 h115 =>
gd (wantB v_103 true) (fun c => obv (.of (fadR 0 (t 4)) h115) fun v => c v h115) h115 fun v_116 h117 =>
gd (wantB v_103 true) (fun c => obv (.of (ld1 h117 v_116) h117) fun v => c v h117) h117 fun v_118 h119 =>
gd (wantB v_103 true) (fun c => obv (.of (aBin P .lss 3 (.tmp 45) (.tmp 47) v_114 v_118) h119) fun v => c v h119) h119 fun v_120 h121 =>
gd (wantB v_103 true) (fun c => obv (.val v_120 h121) fun v => c v h121) h121 fun v_122 h123 =>
gd (wantB v_122 false) (fun c => obv (.val (t 0) h123) fun v => c v h123) h123 fun v_124 h125 =>
gd (wantB v_122 false) (fun c => obv (.val (t 3) h125) fun v => c v h125) h125 fun v_126 h127 =>
gd (wantB v_122 false) (fun c => obv (.of (aBin P .sub 3 (.tmp 51) (.const (.int .i64 1)) v_126 (.int .i64 1)) h127) fun v => c v h127) h127 fun v_128 h129 =>
gd (wantB v_122 false) (fun c => obv (.of (ixsR 4 v_124 v_128) h129) fun v => c v h129) h129 fun v_130 h131 =>
gd (wantB v_122 false) (fun c => obv (.of (fadR 0 v_130) h131) fun v => c v h131) h131 fun v_132 h133 =>
gd (wantB v_122 false) (fun c => obv (.of (ld1 h133 v_132) h133) fun v => c v h133) h133 fun v_134 h135 =>
gd (wantB v_122 false) (fun c => obv (.of (fadR 0 (t 4)) h135) fun v => c v h135) h135 fun v_136 h137 =>
gd (wantB v_122 false) (fun c => obv (.of (ld1 h137 v_136) h137) fun v => c v h137) h137 fun v_138 h139 =>
gd (wantB v_122 false) (fun c => obv (.of (aBin P .eql 3 (.tmp 55) (.tmp 57) v_134 v_138) h139) fun v => c v h139) h139 fun v_140 h141 =>
gd (wantB v_122 false) (fun c => obv (.val v_140 h141) fun v => c v h141) h141 fun v_142 h143 =>
gd (wantB v_142 true) (fun c => obv (.val (t 0) h143) fun v => c v h143) h143 fun v_144 h145 =>
gd (wantB v_142 true) (fun c => obv (.val (t 3) h145) fun v => c v h145) h145 fun v_146 h147 =>
gd (wantB v_142 true) (fun c => obv (.of (aBin P .sub 3 (.tmp 61) (.const (.int .i64 1)) v_146 (.int .i64 1)) h147) fun v => c v h147) h147 fun v_148 h149 =>
gd (wantB v_142 true) (fun c => obv (.of (ixsR 4 v_144 v_148) h149) fun v => c v h149) h149 fun v_150 h151 =>
gd (wantB v_142 true) (fun c => obv (.of (fadR 2 v_150) h151) fun v => c v h151) h151 fun v_152 h153 =>
gd (wantB v_142 true) (fun c => obv (.of (ld1 h153 v_152) h153) fun v => c v h153) h153 fun v_154 h155 =>
gd (wantB v_142 true) (fun c => obv (.of (fadR 2 (t 4)) h155) fun v => c v h155) h155 fun v_156 h157 =>
gd (wantB v_142 true) (fun c => obv (.of (ld1 h157 v_156) h157) fun v => c v h157) h157 fun v_158 h159 =>
gd (wantB v_142 true) (fun c => obv (.of (aBin P .lss 3 (.tmp 65) (.tmp 67) v_154 v_158) h159) fun v => c v h159) h159 fun v_160 h161 =>
gd (wantB v_122 false) (fun c => obv (pkR v_142 v_160 (.bool false) h161) fun v => c v h161) h161 fun v_162 h163 =>
gd (wantB v_103 true) (fun c => obv (pkR v_122 (.bool true) v_162 h163) fun v => c v h163) h163 fun v_164 h165 =>
gd (wantB v_103 true) (fun c => obv (.of (aUn P .not v_164) h165) fun v => c v h165) h165 fun v_166 h167 =>
obv (pkR v_103 v_166 (.bool false) h167) fun v_168 =>
cb v_168 (
arb (.val (.bool false) h167) call fun v_169 h170 =>
k100 .ret (upd (upd (upd (upd (upd (upd (upd (upd (upd (upd (upd (upd (upd (upd (upd (upd (upd (upd (upd (upd (upd (upd (upd (upd (upd (upd (upd (upd (upd (upd (upd (upd (upd (upd (upd (upd (upd t 37 v_101) 38 v_102) 39 v_103) 40 v_104) 41 v_106) 42 v_108) 43 v_110) 44 v_112) 45 v_114) 46 v_116) 47 v_118) 48 v_120) 49 v_122) 50 v_124) 51 v_126) 52 v_128) 53 v_130) 54 v_132) 55 v_134) 56 v_136) 57 v_138) 58 v_140) 59 v_142) 60 v_144) 61 v_146) 62 v_148) 63 v_150) 64 v_152) 65 v_154) 66 v_156) 67 v_158) 68 v_160) 69 v_162) 70 v_164) 71 v_166) 72 v_168) 2 v_169) h170) (
k100 .normal (upd (upd (upd (upd (upd (upd (upd (upd (upd (upd (upd (upd (upd (upd (upd (upd (upd (upd (upd (upd (upd (upd (upd (upd (upd (upd (upd (upd (upd (upd (upd (upd (upd (upd (upd (upd t 37 v_101) 38 v_102) 39 v_103) 40 v_104) 41 v_106) 42 v_108) 43 v_110) 44 v_112) 45 v_114) 46 v_116) 47 v_118) 48 v_120) 49 v_122) 50 v_124) 51 v_126) 52 v_128) 53 v_130) 54 v_132) 55 v_134) 56 v_136) 57 v_138) 58 v_140) 59 v_142) 60 v_144) 61 v_146) 62 v_148) 63 v_150) 64 v_152) 65 v_154) 66 v_156) 67 v_158) 68 v_160) 69 v_162) 70 v_164) 71 v_166) 72 v_168) h167)

def J_precentorref9_RightSubs_2 (P : Program) (call : FuncId → List AVal → Heap → Res AVal) (fuel : Nat) (k : Kn (Ex × T)) (t : T) (h : Heap) : Res (Ex × T) :=
lt (sqK (J_precentorref9_RightSubs_3 P call fuel k) k) fun k14 =>
lt (blkK 1 k14) fun k15 =>
arb (.val (t 0) h) call fun v_16 h17 =>
arb (.val (t 3) h17) call fun v_18 h19 =>
arb (.of (ixsR 4 v_16 v_18) h19) call fun v_20 h21 =>
arb (.of (ldn 4 h21 v_20) h21) call fun v_22 h23 =>
arb (newR [(.int .i64 0), (.int .i64 0), (.int .i64 0), .nils] h23) call fun s_24 h25 =>
arb (stR 4 h25 s_24 v_22) call fun v_26 h27 =>
lt (sqK (J_precentorref9_RightSubs_4 P call fuel k15) k15) fun k171 =>
arb (.of (fadR 0 s_24) h27) call fun v_172 h173 =>
arb (.of (ld1 h173 v_172) h173) call fun v_174 h175 =>
arb (.call F_precentorref9_between [v_174, (.int .i64 1), (.int .i64 6)] h175) call fun v_176 h177 =>
arb (.of (aUn P .not v_176) h177) call fun v_178 h179 =>
arb (.val v_178 h179) call fun v_180 h181 =>
gd (wantB v_180 false) (fun c => arb (.of (fadR 1 s_24) h181) call c) h181 fun v_182 h183 =>
gd (wantB v_180 false) (fun c => arb (.of (ld1 h183 v_182) h183) call c) h183 fun v_184 h185 =>
gd (wantB v_180 false) (fun c => arb (.call F_precentorref9_between [v_184, (.int .i64 0), (.int .i64 7)] h185) call c) h185 fun v_186 h187 =>
gd (wantB v_180 false) (fun c => arb (.of (aUn P .not v_186) h187) call c) h187 fun v_188 h189 =>
arb (pkR v_180 (.bool true) v_188 h189) call fun v_190 h191 =>
arb (.val v_190 h191) call fun v_192 h193 =>
gd (wantB v_192 false) (fun c => arb (.of (fadR 2 s_24) h193) call c) h193 fun v_194 h195 =>
gd (wantB v_192 false) (fun c => arb (.of (ld1 h195 v_194) h195) call c) h195 fun v_196 h197 =>
gd (wantB v_192 false) (fun c => arb (.call F_precentorref9_between [v_196, (.int .i64 1), (.int .i64 4611686018427387904)] h197) call c) h197 fun v_198 h199 =>
gd (wantB v_192 false) (fun c => arb (.of (aUn P .not v_198) h199) call c) h199 fun v_200 h201 =>
arb (pkR v_192 (.bool true) v_200 h201) call fun v_202 h203 =>
arb (.val v_202 h203) call fun v_204 h205 =>
gd (wantB v_204 false) (fun c => arb (.of (fadR 3 s_24) h205) call c) h205 fun v_206 h207 =>
gd (wantB v_204 false) (fun c => arb (.of (ld1 h207 v_206) h207) call c) h207 fun v_208 h209 =>
gd (wantB v_204 false) (fun c => arb (.call F_precentorref1_RightFilter [v_208] h209) call c) h209 fun v_210 h211 =>
gd (wantB v_204 false) (fun c => arb (.of (aUn P .not v_210) h211) call c) h211 fun v_212 h213 =>
arb (pkR v_204 (.bool true) v_212 h213) call fun v_214 h215 =>
cb v_214 (
arb (.val (.bool false) h215) call fun v_216 h217 =>
k171 .ret (upd (upd (upd (upd (upd (upd (upd (upd (upd (upd (upd (upd (upd (upd (upd (upd (upd (upd (upd (upd (upd (upd (upd (upd (upd (upd (upd (upd t 11 v_16) 12 v_18) 13 v_20) 14 v_22) 4 s_24) 15 v_172) 16 v_174) 17 v_176) 18 v_178) 19 v_180) 20 v_182) 21 v_184) 22 v_186) 23 v_188) 24 v_190) 25 v_192) 26 v_194) 27 v_196) 28 v_198) 29 v_200) 30 v_202) 31 v_204) 32 v_206) 33 v_208) 34 v_210) 35 v_212) 36 v_214) 2 v_216) h217) (
k171 .normal (upd (upd (upd (upd (upd (upd (upd (upd (upd (upd (upd (upd (upd (upd (upd (upd (upd (upd (upd (upd (upd (upd (upd (upd (upd (upd (upd t 11 v_16) 12 v_18) 13 v_20) 14 v_22) 4 s_24) 15 v_172) 16 v_174) 17 v_176) 18 v_178) 19 v_180) 20 v_182) 21 v_184) 22 v_186) 23 v_188) 24 v_190) 25 v_192) 26 v_194) 27 v_196) 28 v_198) 29 v_200) 30 v_202) 31 v_204) 32 v_206) 33 v_208) 34 v_210) 35 v_212) 36 v_214) h215)

def L_precentorref9_RightSubs_1 (P : Program) (call : FuncId → List AVal → Heap → Res AVal) (fuel : Nat) (t : T) (h : Heap) : Res (Ex × T) :=
lt okK fun k =>
lt (sqK (J_precentorref9_RightSubs_2 P call fuel k) k) fun k218 =>
arb (.val (t 3) h) call fun v_219 h220 =>
arb (.val (t 0) h220) call fun v_221 h222 =>
arb (.of (lenL v_221) h222) call fun v_223 h224 =>
arb (.of (aBin P .lss 3 (.tmp 5) (.tmp 7) v_219 v_223) h224) call fun v_225 h226 =>
cb v_225 (
k218 .normal (upd (upd (upd (upd t 5 v_219) 6 v_221) 7 v_223) 8 v_225) h226) (
k218 (.exit 0) (upd (upd (upd (upd t 5 v_219) 6 v_221) 7 v_223) 8 v_225) h226)

def S_precentorref9_RightSubs (P : Program) (call : FuncId → List AVal → Heap → Res AVal) (fuel : Nat) (l_a0 : AVal) (h : Heap) : Res AVal :=
lt (retK P [.tmp 2]) fun k =>
arb (.val (.bool false) h) call fun v_0 h1 =>
lt (sqK (J_precentorref9_RightSubs_0 P call fuel k) k) fun k4 =>
arb (.val (.int .i64 0) h1) call fun i_5 h6 =>
lt (blkK 0 k4) fun k7 =>
(loopN (L_precentorref9_RightSubs_1 P call fuel) fuel (upd (upd (enterT [l_a0]) 2 v_0) 3 i_5) h6).bind (lpK k7)
theorem E_precentorref9_RightSubs (call : FuncId → List AVal → Heap → Res AVal) (fuel : Nat) (l_a0 : AVal) (h : Heap) : bodyR Try.prog call fuel Try.f34 [l_a0] h = S_precentorref9_RightSubs Try.prog call fuel l_a0 h := by kernel_rfl
theorem R_precentorref9_RightSubs {X : XTab} (l_a0 : AVal) {h : Heap} {Q : AVal → Heap → Prop} (hx : X F_precentorref9_RightSubs [l_a0] = none) (q : Tells (fun m => S_precentorref9_RightSubs Try.prog (acallX Try.prog X m) m l_a0 h) Q) :
    Tells (fun m => acallX Try.prog X m F_precentorref9_RightSubs [l_a0] h) Q :=
  Tells.later (q.le fun m => (E_precentorref9_RightSubs (acallX Try.prog X m) m l_a0 h) ▸ acallX_le Try.func34 hx m h)

/-! ### precentor/precentorref9.Shared -/
def J_precentorref9_Shared_1 (P : Program) (call : FuncId → List AVal → Heap → Res AVal) (fuel : Nat) (k : Kn (AVal)) (t : T) (h : Heap) : Res (AVal) :=
arb (.val (t 7) h) call fun v_4 h5 =>
arb (.val v_4 h5) call fun v_6 h7 =>
k .ret (upd (upd t 62 v_4) 6 v_6) h7

def J_precentorref9_Shared_4 (P : Program) (call : FuncId → List AVal → Heap → Res AVal) (fuel : Nat) (k : Kn (Ex × T)) (t : T) (h : Heap) : Res (Ex × T) :=
arb (.val (t 8) h) call fun v_12 h13 =>
arb (.of (aBin P .add 3 (.tmp 36) (.const (.int .i64 1)) v_12 (.int .i64 1)) h13) call fun v_14 h15 =>
arb (.val v_14 h15) call fun k_16 h17 =>
k .normal (upd (upd (upd t 36 v_12) 37 v_14) 8 k_16) h17

def J_precentorref9_Shared_3 (P : Program) (call : FuncId → List AVal → Heap → Res AVal) (fuel : Nat) (k : Kn (Ex × T)) (t : T) (h : Heap) : Res (Ex × T) :=
lt (sqK (J_precentorref9_Shared_4 P call fuel k) k) fun k18 =>
lt (blkK 1 k18) fun k19 =>
obv (.val (t 0) h) fun v_20 =>
obv (.val (t 2) h) fun v_22 =>
obv (.of (ixsR 2 v_20 v_22) h) fun v_24 =>
obv (.of (fadR 1 v_24) h) fun v_26 =>
obv (.of (ld1 h v_26) h) fun v_28 => ifb true <|
obv (.val (t 0) h) fun v_30 =>
obv (.val (t 1) h) fun v_32 =>
obv (.of (ixsR 2 v_30 v_32) h) fun v_34 =>
obv (.of (fadR 1 v_34) h) fun v_36 =>
obv (.of (ld1 h v_36) h) fun v_38 => ifb true <|
obv (.val (t 8) h) fun v_40 =>
obv (.of (ixsR 1 v_38 v_40) h) fun v_42 =>
obv (.of (ld1 h v_42) h) fun v_44 => ifb true <|
arbE (.call F_precentorref9_In [v_28, v_44] h) call fun v_46 h47 => lt h47 fun g47 => ifb (true && true) <|
cb v_46 (
arb (.val (t 7) g47) call fun v_48 h49 =>
arb (.val (t 0) h49) call fun v_50 h51 =>
arb (.val (t 1) h51) call fun v_52 h53 =>
arb (.of (ixsR 2 v_50 v_52) h53) call fun v_54 h55 =>
arb (.of (fadR 1 v_54) h55) call fun v_56 h57 =>
arb (.of (ld1 h57 v_56) h57) call fun v_58 h59 =>
arb (.val (t 8) h59) call fun v_60 h61 =>
arb (.of (ixsR 1 v_58 v_60) h61) call fun v_62 h63 =>
arb (.of (ld1 h63 v_62) h63) call fun v_64 h65 =>
arb (.call F_precentorref9_Put [v_48, v_64] h65) call fun v_66 h67 =>
arb (.val v_66 h67) call fun out_68 h69 =>
k19 .normal (upd (upd (upd (upd (upd (upd (upd (upd (upd (upd (upd (upd (upd (upd (upd (upd (upd (upd (upd (upd (upd (upd (upd (upd (upd t 38 v_20) 39 v_22) 40 v_24) 41 v_26) 42 v_28) 43 v_30) 44 v_32) 45 v_34) 46 v_36) 47 v_38) 48 v_40) 49 v_42) 50 v_44) 51 v_46) 52 v_48) 53 v_50) 54 v_52) 55 v_54) 56 v_56) 57 v_58) 58 v_60) 59 v_62) 60 v_64) 61 v_66) 7 out_68) h69) (
k19 .normal (upd (upd (upd (upd (upd (upd (upd (upd (upd (upd (upd (upd (upd (upd t 38 v_20) 39 v_22) 40 v_24) 41 v_26) 42 v_28) 43 v_30) 44 v_32) 45 v_34) 46 v_36) 47 v_38) 48 v_40) 49 v_42) 50 v_44) 51 v_46) g47)

def L_precentorref9_Shared_2 (P : Program) (call : FuncId → List AVal → Heap → Res AVal) (fuel : Nat) (t : T) (h : Heap) : Res (Ex × T) :=
lt okK fun k =>
lt (sqK (J_precentorref9_Shared_3 P call fuel k) k) fun k70 =>
arb (.val (t 8) h) call fun v_71 h72 =>
arb (.val (t 0) h72) call fun v_73 h74 =>
arb (.val (t 1) h74) call fun v_75 h76 =>
arb (.of (ixsR 2 v_73 v_75) h76) call fun v_77 h78 =>
arb (.of (fadR 1 v_77) h78) call fun v_79 h80 =>
arb (.of (ld1 h80 v_79) h80) call fun v_81 h82 =>
arb (.of (lenL v_81) h82) call fun v_83 h84 =>
arb (.of (aBin P .lss 3 (.tmp 28) (.tmp 34) v_71 v_83) h84) call fun v_85 h86 =>
cb v_85 (
k70 .normal (upd (upd (upd (upd (upd (upd (upd (upd t 28 v_71) 29 v_73) 30 v_75) 31 v_77) 32 v_79) 33 v_81) 34 v_83) 35 v_85) h86) (
k70 (.exit 0) (upd (upd (upd (upd (upd (upd (upd (upd t 28 v_71) 29 v_73) 30 v_75) 31 v_77) 32 v_79) 33 v_81) 34 v_83) 35 v_85) h86)

def J_precentorref9_Shared_0 (P : Program) (call : FuncId → List AVal → Heap → Res AVal) (fuel : Nat) (k : Kn (AVal)) (t : T) (h : Heap) : Res (AVal) :=
lt (sqK (J_precentorref9_Shared_1 P call fuel k) k) fun k8 =>
arb (.val (.int .i64 0) h) call fun k_9 h10 =>
lt (blkK 0 k8) fun k11 =>
(loopN (L_precentorref9_Shared_2 P call fuel) fuel (upd t 8 k_9) h10).bind (lpK k11)

def S_precentorref9_Shared (P : Program) (call : FuncId → List AVal → Heap → Res AVal) (fuel : Nat) (g_a0 a_a1 b_a2 : AVal) (h : Heap) : Res AVal :=
lt (retK P [.tmp 6]) fun k =>
arb (.val .nils h) call fun v_0 h1 =>
arb (.val .nils h1) call fun out_2 h3 =>
lt (sqK (J_precentorref9_Shared_0 P call fuel k) k) fun k87 =>
arb (.val a_a1 h3) call fun v_88 h89 =>
arb (.of (aBin P .lss 3 (.tmp 9) (.const (.int .i64 0)) v_88 (.int .i64 0)) h89) call fun v_90 h91 =>
arb (.val v_90 h91) call fun v_92 h93 =>
gd (wantB v_92 false) (fun c => arb (.val b_a2 h93) call c) h93 fun v_94 h95 =>
gd (wantB v_92 false) (fun c => arb (.of (aBin P .lss 3 (.tmp 12) (.const (.int .i64 0)) v_94 (.int .i64 0)) h95) call c) h95 fun v_96 h97 =>
arb (pkR v_92 (.bool true) v_96 h97) call fun v_98 h99 =>
arb (.val v_98 h99) call fun v_100 h101 =>
gd (wantB v_100 false) (fun c => arb (.val a_a1 h101) call c) h101 fun v_102 h103 =>
gd (wantB v_100 false) (fun c => arb (.val g_a0 h103) call c) h103 fun v_104 h105 =>
gd (wantB v_100 false) (fun c => arb (.of (lenL v_104) h105) call c) h105 fun v_106 h107 =>
gd (wantB v_100 false) (fun c => arb (.of (aBin P .geq 3 (.tmp 16) (.tmp 18) v_102 v_106) h107) call c) h107 fun v_108 h109 =>
arb (pkR v_100 (.bool true) v_108 h109) call fun v_110 h111 =>
arb (.val v_110 h111) call fun v_112 h113 =>
gd (wantB v_112 false) (fun c => arb (.val b_a2 h113) call c) h113 fun v_114 h115 =>
gd (wantB v_112 false) (fun c => arb (.val g_a0 h115) call c) h115 fun v_116 h117 =>
gd (wantB v_112 false) (fun c => arb (.of (lenL v_116) h117) call c) h117 fun v_118 h119 =>
gd (wantB v_112 false) (fun c => arb (.of (aBin P .geq 3 (.tmp 22) (.tmp 24) v_114 v_118) h119) call c) h119 fun v_120 h121 =>
arb (pkR v_112 (.bool true) v_120 h121) call fun v_122 h123 =>
cb v_122 (
arb (.val out_2 h123) call fun v_124 h125 =>
arb (.val v_124 h125) call fun v_126 h127 =>
k87 .ret (upd (upd (upd (upd (upd (upd (upd (upd (upd (upd (upd (upd (upd (upd (upd (upd (upd (upd (upd (upd (upd (upd (enterT [g_a0, a_a1, b_a2]) 6 v_0) 7 out_2) 9 v_88) 10 v_90) 11 v_92) 12 v_94) 13 v_96) 14 v_98) 15 v_100) 16 v_102) 17 v_104) 18 v_106) 19 v_108) 20 v_110) 21 v_112) 22 v_114) 23 v_116) 24 v_118) 25 v_120) 26 v_122) 27 v_124) 6 v_126) h127) (
k87 .normal (upd (upd (upd (upd (upd (upd (upd (upd (upd (upd (upd (upd (upd (upd (upd (upd (upd (upd (upd (upd (enterT [g_a0, a_a1, b_a2]) 6 v_0) 7 out_2) 9 v_88) 10 v_90) 11 v_92) 12 v_94) 13 v_96) 14 v_98) 15 v_100) 16 v_102) 17 v_104) 18 v_106) 19 v_108) 20 v_110) 21 v_112) 22 v_114) 23 v_116) 24 v_118) 25 v_120) 26 v_122) h123)
theorem E_precentorref9_Shared (call : FuncId → List AVal → Heap → Res AVal) (fuel : Nat) (g_a0 a_a1 b_a2 : AVal) (h : Heap) : bodyR Try.prog call fuel Try.f35 [g_a0, a_a1, b_a2] h = S_precentorref9_Shared Try.prog call fuel g_a0 a_a1 b_a2 h := by kernel_rfl
theorem R_precentorref9_Shared {X : XTab} (g_a0 a_a1 b_a2 : AVal) {h : Heap} {Q : AVal → Heap → Prop} (hx : X F_precentorref9_Shared [g_a0, a_a1, b_a2] = none) (q : Tells (fun m => S_precentorref9_Shared Try.prog (acallX Try.prog X m) m g_a0 a_a1 b_a2 h) Q) :
    Tells (fun m => acallX Try.prog X m F_precentorref9_Shared [g_a0, a_a1, b_a2] h) Q :=
  Tells.later (q.le fun m => (E_precentorref9_Shared (acallX Try.prog X m) m g_a0 a_a1 b_a2 h) ▸ acallX_le Try.func35 hx m h)

/-! ### precentor/precentorref9.Of -/
def J_precentorref9_Of_0 (P : Program) (call : FuncId → List AVal → Heap → Res AVal) (fuel : Nat) (k : Kn (AVal)) (t : T) (h : Heap) : Res (AVal) :=
arb (.val (t 5) h) call fun v_4 h5 =>
arb (.val v_4 h5) call fun v_6 h7 =>
k .ret (upd (upd t 27 v_4) 4 v_6) h7

def J_precentorref9_Of_3 (P : Program) (call : FuncId → List AVal → Heap → Res AVal) (fuel : Nat) (k : Kn (Ex × T)) (t : T) (h : Heap) : Res (Ex × T) :=
arb (.val (t 6) h) call fun v_12 h13 =>
arb (.of (aBin P .add 3 (.tmp 11) (.const (.int .i64 1)) v_12 (.int .i64 1)) h13) call fun v_14 h15 =>
arb (.val v_14 h15) call fun i_16 h17 =>
k .normal (upd (upd (upd t 11 v_12) 12 v_14) 6 i_16) h17

def J_precentorref9_Of_2 (P : Program) (call : FuncId → List AVal → Heap → Res AVal) (fuel : Nat) (k : Kn (Ex × T)) (t : T) (h : Heap) : Res (Ex × T) :=
lt (sqK (J_precentorref9_Of_3 P call fuel k) k) fun k18 =>
lt (blkK 1 k18) fun k19 =>
arb (.val (t 0) h) call fun v_20 h21 =>
arb (.val (t 6) h21) call fun v_22 h23 =>
arb (.of (ixsR 4 v_20 v_22) h23) call fun v_24 h25 =>
arb (.of (fadR 0 v_24) h25) call fun v_26 h27 =>
arb (.of (ld1 h27 v_26) h27) call fun v_28 h29 =>
arb (.val (t 1) h29) call fun v_30 h31 =>
arb (.of (aBin P .eql 3 (.tmp 17) (.tmp 18) v_28 v_30) h31) call fun v_32 h33 =>
cb v_32 (
arb (.val (t 5) h33) call fun v_34 h35 =>
arb (.val (t 0) h35) call fun v_36 h37 =>
arb (.val (t 6) h37) call fun v_38 h39 =>
arb (.of (ixsR 4 v_36 v_38) h39) call fun v_40 h41 =>
arb (.of (ldn 4 h41 v_40) h41) call fun v_42 h43 =>
arb (bslR 4 [(.int .i64 0), (.int .i64 0), (.int .i64 0), .nils] 1 h43 [(0, 4, v_42)]) call fun v_44 h45 =>
arb (appR 4 48 h45 v_34 v_44) call fun v_46 h47 =>
arb (.val v_46 h47) call fun out_48 h49 =>
k19 .normal (upd (upd (upd (upd (upd (upd (upd (upd (upd (upd (upd (upd (upd (upd (upd t 13 v_20) 14 v_22) 15 v_24) 16 v_26) 17 v_28) 18 v_30) 19 v_32) 20 v_34) 21 v_36) 22 v_38) 23 v_40) 24 v_42) 25 v_44) 26 v_46) 5 out_48) h49) (
k19 .normal (upd (upd (upd (upd (upd (upd (upd t 13 v_20) 14 v_22) 15 v_24) 16 v_26) 17 v_28) 18 v_30) 19 v_32) h33)

def L_precentorref9_Of_1 (P : Program) (call : FuncId → List AVal → Heap → Res AVal) (fuel : Nat) (t : T) (h : Heap) : Res (Ex × T) :=
lt okK fun k =>
lt (sqK (J_precentorref9_Of_2 P call fuel k) k) fun k50 =>
arb (.val (t 6) h) call fun v_51 h52 =>
arb (.val (t 0) h52) call fun v_53 h54 =>
arb (.of (lenL v_53) h54) call fun v_55 h56 =>
arb (.of (aBin P .lss 3 (.tmp 7) (.tmp 9) v_51 v_55) h56) call fun v_57 h58 =>
cb v_57 (
k50 .normal (upd (upd (upd (upd t 7 v_51) 8 v_53) 9 v_55) 10 v_57) h58) (
k50 (.exit 0) (upd (upd (upd (upd t 7 v_51) 8 v_53) 9 v_55) 10 v_57) h58)

def S_precentorref9_Of (P : Program) (call : FuncId → List AVal → Heap → Res AVal) (fuel : Nat) (l_a0 client_a1 : AVal) (h : Heap) : Res AVal :=
lt (retK P [.tmp 4]) fun k =>
arb (.val .nils h) call fun v_0 h1 =>
arb (.val .nils h1) call fun out_2 h3 =>
lt (sqK (J_precentorref9_Of_0 P call fuel k) k) fun k8 =>
arb (.val (.int .i64 0) h3) call fun i_9 h10 =>
lt (blkK 0 k8) fun k11 =>
(loopN (L_precentorref9_Of_1 P call fuel) fuel (upd (upd (upd (enterT [l_a0, client_a1]) 4 v_0) 5 out_2) 6 i_9) h10).bind (lpK k11)
theorem E_precentorref9_Of (call : FuncId → List AVal → Heap → Res AVal) (fuel : Nat) (l_a0 client_a1 : AVal) (h : Heap) : bodyR Try.prog call fuel Try.f36 [l_a0, client_a1] h = S_precentorref9_Of Try.prog call fuel l_a0 client_a1 h := by kernel_rfl
theorem R_precentorref9_Of {X : XTab} (l_a0 client_a1 : AVal) {h : Heap} {Q : AVal → Heap → Prop} (hx : X F_precentorref9_Of [l_a0, client_a1] = none) (q : Tells (fun m => S_precentorref9_Of Try.prog (acallX Try.prog X m) m l_a0 client_a1 h) Q) :
    Tells (fun m => acallX Try.prog X m F_precentorref9_Of [l_a0, client_a1] h) Q :=
  Tells.later (q.le fun m => (E_precentorref9_Of (acallX Try.prog X m) m l_a0 client_a1 h) ▸ acallX_le Try.func36 hx m h)

/-! ### precentor/precentorref9.Place -/
def J_precentorref9_Place_1 (P : Program) (call : FuncId → List AVal → Heap → Res AVal) (fuel : Nat) (k : Kn (AVal)) (t : T) (h : Heap) : Res (AVal) :=
arb (.val (t 5) h) call fun v_6 h7 =>
arb (.val v_6 h7) call fun v_8 h9 =>
k .ret (upd (upd t 63 v_6) 4 v_8) h9

def J_precentorref9_Place_4 (P : Program) (call : FuncId → List AVal → Heap → Res AVal) (fuel : Nat) (k : Kn (Ex × T)) (t : T) (h : Heap) : Res (Ex × T) :=
arb (.val (t 8) h) call fun v_14 h15 =>
arb (.of (aBin P .add 3 (.tmp 37) (.const (.int .i64 1)) v_14 (.int .i64 1)) h15) call fun v_16 h17 =>
arb (.val v_16 h17) call fun x_18 h19 =>
k .normal (upd (upd (upd t 37 v_14) 38 v_16) 8 x_18) h19

def J_precentorref9_Place_5 (P : Program) (call : FuncId → List AVal → Heap → Res AVal) (fuel : Nat) (k : Kn (Ex × T)) (t : T) (h : Heap) : Res (Ex × T) :=
arb (.val (t 5) h) call fun v_24 h25 =>
arb (.of (aBin P .lss 3 (.tmp 54) (.const (.int .i64 0)) v_24 (.int .i64 0)) h25) call fun v_26 h27 =>
arb (.val v_26 h27) call fun v_28 h29 =>
gd (wantB v_28 false) (fun c => arb (.val (t 9) h29) call c) h29 fun v_30 h31 =>
gd (wantB v_28 false) (fun c => arb (.val (t 6) h31) call c) h31 fun v_32 h33 =>
gd (wantB v_28 false) (fun c => arb (.of (aBin P .lss 3 (.tmp 57) (.tmp 58) v_30 v_32) h33) call c) h33 fun v_34 h35 =>
arb (pkR v_28 (.bool true) v_34 h35) call fun v_36 h37 =>
cb v_36 (
arb (.val (t 8) h37) call fun v_38 h39 =>
arb (.val (t 9) h39) call fun v_40 h41 =>
arb (.val v_38 h41) call fun best_42 h43 =>
arb (.val v_40 h43) call fun least_44 h45 =>
k .normal (upd (upd (upd (upd (upd (upd (upd (upd (upd (upd (upd t 54 v_24) 55 v_26) 56 v_28) 57 v_30) 58 v_32) 59 v_34) 60 v_36) 61 v_38) 62 v_40) 5 best_42) 6 least_44) h45) (
k .normal (upd (upd (upd (upd (upd (upd (upd t 54 v_24) 55 v_26) 56 v_28) 57 v_30) 58 v_32) 59 v_34) 60 v_36) h37)

def J_precentorref9_Place_8 (P : Program) (call : FuncId → List AVal → Heap → Res AVal) (fuel : Nat) (k : Kn (Ex × T)) (t : T) (h : Heap) : Res (Ex × T) :=
arb (.val (t 10) h) call fun v_50 h51 =>
arb (.of (aBin P .add 3 (.tmp 43) (.const (.int .i64 1)) v_50 (.int .i64 1)) h51) call fun v_52 h53 =>
arb (.val v_52 h53) call fun i_54 h55 =>
k .normal (upd (upd (upd t 43 v_50) 44 v_52) 10 i_54) h55

def J_precentorref9_Place_7 (P : Program) (call : FuncId → List AVal → Heap → Res AVal) (fuel : Nat) (k : Kn (Ex × T)) (t : T) (h : Heap) : Res (Ex × T) :=
lt (sqK (J_precentorref9_Place_8 P call fuel k) k) fun k56 =>
lt (blkK 5 k56) fun k57 =>
arb (.val (t 9) h) call fun v_58 h59 =>
arb (.val (t 0) h59) call fun v_60 h61 =>
arb (.val (t 8) h61) call fun v_62 h63 =>
arb (.val (t 1) h63) call fun v_64 h65 =>
arb (.val (t 10) h65) call fun v_66 h67 =>
arb (.of (ixsR 1 v_64 v_66) h67) call fun v_68 h69 =>
arb (.of (ld1 h69 v_68) h69) call fun v_70 h71 =>
arb (.call F_precentorref9_Dist [v_60, v_62, v_70] h71) call fun v_72 h73 =>
arb (.of (aBin P .add 3 (.tmp 45) (.tmp 52) v_58 v_72) h73) call fun v_74 h75 =>
arb (.val v_74 h75) call fun sum_76 h77 =>
k57 .normal (upd (upd (upd (upd (upd (upd (upd (upd (upd (upd t 45 v_58) 46 v_60) 47 v_62) 48 v_64) 49 v_66) 50 v_68) 51 v_70) 52 v_72) 53 v_74) 9 sum_76) h77

def L_precentorref9_Place_6 (P : Program) (call : FuncId → List AVal → Heap → Res AVal) (fuel : Nat) (t : T) (h : Heap) : Res (Ex × T) :=
lt okK fun k =>
lt (sqK (J_precentorref9_Place_7 P call fuel k) k) fun k78 =>
arb (.val (t 10) h) call fun v_79 h80 =>
arb (.val (t 1) h80) call fun v_81 h82 =>
arb (.of (lenL v_81) h82) call fun v_83 h84 =>
arb (.of (aBin P .lss 3 (.tmp 39) (.tmp 41) v_79 v_83) h84) call fun v_85 h86 =>
cb v_85 (
k78 .normal (upd (upd (upd (upd t 39 v_79) 40 v_81) 41 v_83) 42 v_85) h86) (
k78 (.exit 4) (upd (upd (upd (upd t 39 v_79) 40 v_81) 41 v_83) 42 v_85) h86)

def J_precentorref9_Place_3 (P : Program) (call : FuncId → List AVal → Heap → Res AVal) (fuel : Nat) (k : Kn (Ex × T)) (t : T) (h : Heap) : Res (Ex × T) :=
lt (sqK (J_precentorref9_Place_4 P call fuel k) k) fun k20 =>
lt (blkK 3 k20) fun k21 =>
arb (.val (.int .i64 0) h) call fun sum_22 h23 =>
lt (sqK (J_precentorref9_Place_5 P call fuel k21) k21) fun k46 =>
arb (.val (.int .i64 0) h23) call fun i_47 h48 =>
lt (blkK 4 k46) fun k49 =>
(loopN (L_precentorref9_Place_6 P call fuel) fuel (upd (upd t 9 sum_22) 10 i_47) h48).bind (lpK k49)

def L_precentorref9_Place_2 (P : Program) (call : FuncId → List AVal → Heap → Res AVal) (fuel : Nat) (t : T) (h : Heap) : Res (Ex × T) :=
lt okK fun k =>
lt (sqK (J_precentorref9_Place_3 P call fuel k) k) fun k87 =>
arb (.val (t 0) h) call fun v_88 h89 =>
arb (.call F_precentorref9_RightTree [v_88] h89) call fun v_90 h91 =>
arb (.val v_90 h91) call fun v_92 h93 =>
gd (wantB v_92 true) (fun c => arb (.val (t 1) h93) call c) h93 fun v_94 h95 =>
gd (wantB v_92 true) (fun c => arb (.of (lenL v_94) h95) call c) h95 fun v_96 h97 =>
gd (wantB v_92 true) (fun c => arb (.of (aBin P .gtr 3 (.tmp 28) (.const (.int .i64 0)) v_96 (.int .i64 0)) h97) call c) h97 fun v_98 h99 =>
arb (pkR v_92 v_98 (.bool false) h99) call fun v_100 h101 =>
arb (.val v_100 h101) call fun v_102 h103 =>
gd (wantB v_102 true) (fun c => arb (.val (t 8) h103) call c) h103 fun v_104 h105 =>
gd (wantB v_102 true) (fun c => arb (.val (t 0) h105) call c) h105 fun v_106 h107 =>
gd (wantB v_102 true) (fun c => arb (.of (lenL v_106) h107) call c) h107 fun v_108 h109 =>
gd (wantB v_102 true) (fun c => arb (.of (aBin P .leq 3 (.tmp 32) (.tmp 34) v_104 v_108) h109) call c) h109 fun v_110 h111 =>
arb (pkR v_102 v_110 (.bool false) h111) call fun v_112 h113 =>
cb v_112 (
k87 .normal (upd (upd (upd (upd (upd (upd (upd (upd (upd (upd (upd (upd (upd t 24 v_88) 25 v_90) 26 v_92) 27 v_94) 28 v_96) 29 v_98) 30 v_100) 31 v_102) 32 v_104) 33 v_106) 34 v_108) 35 v_110) 36 v_112) h113) (
k87 (.exit 2) (upd (upd (upd (upd (upd (upd (upd (upd (upd (upd (upd (upd (upd t 24 v_88) 25 v_90) 26 v_92) 27 v_94) 28 v_96) 29 v_98) 30 v_100) 31 v_102) 32 v_104) 33 v_106) 34 v_108) 35 v_110) 36 v_112) h113)

def J_precentorref9_Place_0 (P : Program) (call : FuncId → List AVal → Heap → Res AVal) (fuel : Nat) (k : Kn (AVal)) (t : T) (h : Heap) : Res (AVal) :=
lt (sqK (J_precentorref9_Place_1 P call fuel k) k) fun k10 =>
arb (.val (.int .i64 0) h) call fun x_11 h12 =>
lt (blkK 2 k10) fun k13 =>
(loopN (L_precentorref9_Place_2 P call fuel) fuel (upd t 8 x_11) h12).bind (lpK k13)

def J_precentorref9_Place_11 (P : Program) (call : FuncId → List AVal → Heap → Res AVal) (fuel : Nat) (k : Kn (Ex × T)) (t : T) (h : Heap) : Res (Ex × T) :=
arb (.val (t 7) h) call fun v_118 h119 =>
arb (.of (aBin P .add 3 (.tmp 15) (.const (.int .i64 1)) v_118 (.int .i64 1)) h119) call fun v_120 h121 =>
arb (.val v_120 h121) call fun i_122 h123 =>
k .normal (upd (upd (upd t 15 v_118) 16 v_120) 7 i_122) h123

def J_precentorref9_Place_10 (P : Program) (call : FuncId → List AVal → Heap → Res AVal) (fuel : Nat) (k : Kn (Ex × T)) (t : T) (h : Heap) : Res (Ex × T) :=
lt (sqK (J_precentorref9_Place_11 P call fuel k) k) fun k124 =>
lt (blkK 1 k124) fun k125 =>
arb (.val (t 0) h) call fun v_126 h127 =>
arb (.val (t 1) h127) call fun v_128 h129 =>
arb (.val (t 7) h129) call fun v_130 h131 =>
arb (.of (ixsR 1 v_128 v_130) h131) call fun v_132 h133 =>
arb (.of (ld1 h133 v_132) h133) call fun v_134 h135 =>
arb (.call F_precentorref9_has [v_126, v_134] h135) call fun v_136 h137 =>
arb (.of (aUn P .not v_136) h137) call fun v_138 h139 =>
cb v_138 (
arb (.val (.int .i64 (-1)) h139) call fun v_140 h141 =>
k125 .ret (upd (upd (upd (upd (upd (upd (upd (upd t 17 v_126) 18 v_128) 19 v_130) 20 v_132) 21 v_134) 22 v_136) 23 v_138) 4 v_140) h141) (
k125 .normal (upd (upd (upd (upd (upd (upd (upd t 17 v_126) 18 v_128) 19 v_130) 20 v_132) 21 v_134) 22 v_136) 23 v_138) h139)

def L_precentorref9_Place_9 (P : Program) (call : FuncId → List AVal → Heap → Res AVal) (fuel : Nat) (t : T) (h : Heap) : Res (Ex × T) :=
lt okK fun k =>
lt (sqK (J_precentorref9_Place_10 P call fuel k) k) fun k142 =>
arb (.val (t 7) h) call fun v_143 h144 =>
arb (.val (t 1) h144) call fun v_145 h146 =>
arb (.of (lenL v_145) h146) call fun v_147 h148 =>
arb (.of (aBin P .lss 3 (.tmp 11) (.tmp 13) v_143 v_147) h148) call fun v_149 h150 =>
cb v_149 (
k142 .normal (upd (upd (upd (upd t 11 v_143) 12 v_145) 13 v_147) 14 v_149) h150) (
k142 (.exit 0) (upd (upd (upd (upd t 11 v_143) 12 v_145) 13 v_147) 14 v_149) h150)

def S_precentorref9_Place (P : Program) (call : FuncId → List AVal → Heap → Res AVal) (fuel : Nat) (p_a0 l_a1 : AVal) (h : Heap) : Res AVal :=
lt (retK P [.tmp 4]) fun k =>
arb (.val (.int .i64 0) h) call fun v_0 h1 =>
arb (.val (.int .i64 (-1)) h1) call fun best_2 h3 =>
arb (.val (.int .i64 0) h3) call fun least_4 h5 =>
lt (sqK (J_precentorref9_Place_0 P call fuel k) k) fun k114 =>
arb (.val (.int .i64 0) h5) call fun i_115 h116 =>
lt (blkK 0 k114) fun k117 =>
(loopN (L_precentorref9_Place_9 P call fuel) fuel (upd (upd (upd (upd (enterT [p_a0, l_a1]) 4 v_0) 5 best_2) 6 least_4) 7 i_115) h116).bind (lpK k117)
theorem E_precentorref9_Place (call : FuncId → List AVal → Heap → Res AVal) (fuel : Nat) (p_a0 l_a1 : AVal) (h : Heap) : bodyR Try.prog call fuel Try.f37 [p_a0, l_a1] h = S_precentorref9_Place Try.prog call fuel p_a0 l_a1 h := by kernel_rfl
theorem R_precentorref9_Place {X : XTab} (p_a0 l_a1 : AVal) {h : Heap} {Q : AVal → Heap → Prop} (hx : X F_precentorref9_Place [p_a0, l_a1] = none) (q : Tells (fun m => S_precentorref9_Place Try.prog (acallX Try.prog X m) m p_a0 l_a1 h) Q) :
    Tells (fun m => acallX Try.prog X m F_precentorref9_Place [p_a0, l_a1] h) Q :=
  Tells.later (q.le fun m => (E_precentorref9_Place (acallX Try.prog X m) m p_a0 l_a1 h) ▸ acallX_le Try.func37 hx m h)

/-! ### precentor/precentorref9.Put -/
def J_precentorref9_Put_2 (P : Program) (call : FuncId → List AVal → Heap → Res AVal) (fuel : Nat) (k : Kn (AVal)) (t : T) (h : Heap) : Res (AVal) :=
arb (.val (t 5) h) call fun v_14 h15 =>
arb (.val v_14 h15) call fun v_16 h17 =>
k .ret (upd (upd t 56 v_14) 4 v_16) h17

def J_precentorref9_Put_5 (P : Program) (call : FuncId → List AVal → Heap → Res AVal) (fuel : Nat) (k : Kn (Ex × T)) (t : T) (h : Heap) : Res (Ex × T) :=
arb (.val (t 7) h) call fun v_22 h23 =>
arb (.of (aBin P .add 3 (.tmp 41) (.const (.int .i64 1)) v_22 (.int .i64 1)) h23) call fun v_24 h25 =>
arb (.val v_24 h25) call fun i_26 h27 =>
k .normal (upd (upd (upd t 41 v_22) 42 v_24) 7 i_26) h27

def J_precentorref9_Put_4 (P : Program) (call : FuncId → List AVal → Heap → Res AVal) (fuel : Nat) (k : Kn (Ex × T)) (t : T) (h : Heap) : Res (Ex × T) :=
lt (sqK (J_precentorref9_Put_5 P call fuel k) k) fun k28 =>
lt (blkK 3 k28) fun k29 =>
arb (.val (t 0) h) call fun v_30 h31 =>
arb (.val (t 7) h31) call fun v_32 h33 =>
arb (.of (ixsR 1 v_30 v_32) h33) call fun v_34 h35 =>
arb (.of (ld1 h35 v_34) h35) call fun v_36 h37 =>
arb (.val (t 1) h37) call fun v_38 h39 =>
arb (.of (aBin P .gtr 3 (.tmp 46) (.tmp 47) v_36 v_38) h39) call fun v_40 h41 =>
cb v_40 (
arb (.val (t 5) h41) call fun v_42 h43 =>
arb (.val (t 0) h43) call fun v_44 h45 =>
arb (.val (t 7) h45) call fun v_46 h47 =>
arb (.of (ixsR 1 v_44 v_46) h47) call fun v_48 h49 =>
arb (.of (ld1 h49 v_48) h49) call fun v_50 h51 =>
arb (bslR 1 [(.int .i64 0)] 1 h51 [(0, 1, v_50)]) call fun v_52 h53 =>
arb (appR 1 8 h53 v_42 v_52) call fun v_54 h55 =>
arb (.val v_54 h55) call fun out_56 h57 =>
k29 .normal (upd (upd (upd (upd (upd (upd (upd (upd (upd (upd (upd (upd (upd (upd t 43 v_30) 44 v_32) 45 v_34) 46 v_36) 47 v_38) 48 v_40) 49 v_42) 50 v_44) 51 v_46) 52 v_48) 53 v_50) 54 v_52) 55 v_54) 5 out_56) h57) (
k29 .normal (upd (upd (upd (upd (upd (upd t 43 v_30) 44 v_32) 45 v_34) 46 v_36) 47 v_38) 48 v_40) h41)

def L_precentorref9_Put_3 (P : Program) (call : FuncId → List AVal → Heap → Res AVal) (fuel : Nat) (t : T) (h : Heap) : Res (Ex × T) :=
lt okK fun k =>
lt (sqK (J_precentorref9_Put_4 P call fuel k) k) fun k58 =>
arb (.val (t 7) h) call fun v_59 h60 =>
arb (.val (t 0) h60) call fun v_61 h62 =>
arb (.of (lenL v_61) h62) call fun v_63 h64 =>
arb (.of (aBin P .lss 3 (.tmp 37) (.tmp 39) v_59 v_63) h64) call fun v_65 h66 =>
cb v_65 (
k58 .normal (upd (upd (upd (upd t 37 v_59) 38 v_61) 39 v_63) 40 v_65) h66) (
k58 (.exit 2) (upd (upd (upd (upd t 37 v_59) 38 v_61) 39 v_63) 40 v_65) h66)

def J_precentorref9_Put_1 (P : Program) (call : FuncId → List AVal → Heap → Res AVal) (fuel : Nat) (k : Kn (AVal)) (t : T) (h : Heap) : Res (AVal) :=
arb (.val (t 5) h) call fun v_4 h5 =>
arb (.val (t 1) h5) call fun v_6 h7 =>
arb (bslR 1 [(.int .i64 0)] 1 h7 [(0, 1, v_6)]) call fun v_8 h9 =>
arb (appR 1 8 h9 v_4 v_8) call fun v_10 h11 =>
arb (.val v_10 h11) call fun out_12 h13 =>
lt (sqK (J_precentorref9_Put_2 P call fuel k) k) fun k18 =>
arb (.val (.int .i64 0) h13) call fun i_19 h20 =>
lt (blkK 2 k18) fun k21 =>
(loopN (L_precentorref9_Put_3 P call fuel) fuel (upd (upd (upd (upd (upd (upd t 33 v_4) 34 v_6) 35 v_8) 36 v_10) 5 out_12) 7 i_19) h20).bind (lpK k21)

def J_precentorref9_Put_8 (P : Program) (call : FuncId → List AVal → Heap → Res AVal) (fuel : Nat) (k : Kn (Ex × T)) (t : T) (h : Heap) : Res (Ex × T) :=
arb (.val (t 6) h) call fun v_71 h72 =>
arb (.of (aBin P .add 3 (.tmp 24) (.const (.int .i64 1)) v_71 (.int .i64 1)) h72) call fun v_73 h74 =>
arb (.val v_73 h74) call fun i_75 h76 =>
k .normal (upd (upd (upd t 24 v_71) 25 v_73) 6 i_75) h76

def J_precentorref9_Put_7 (P : Program) (call : FuncId → List AVal → Heap → Res AVal) (fuel : Nat) (k : Kn (Ex × T)) (t : T) (h : Heap) : Res (Ex × T) :=
lt (sqK (J_precentorref9_Put_8 P call fuel k) k) fun k77 =>
lt (blkK 1 k77) fun k78 =>
arb (.val (t 5) h) call fun v_79 h80 =>
arb (.val (t 0) h80) call fun v_81 h82 =>
arb (.val (t 6) h82) call fun v_83 h84 =>
arb (.of (ixsR 1 v_81 v_83) h84) call fun v_85 h86 =>
arb (.of (ld1 h86 v_85) h86) call fun v_87 h88 =>
arb (bslR 1 [(.int .i64 0)] 1 h88 [(0, 1, v_87)]) call fun v_89 h90 =>
arb (appR 1 8 h90 v_79 v_89) call fun v_91 h92 =>
arb (.val v_91 h92) call fun out_93 h94 =>
k78 .normal (upd (upd (upd (upd (upd (upd (upd (upd t 26 v_79) 27 v_81) 28 v_83) 29 v_85) 30 v_87) 31 v_89) 32 v_91) 5 out_93) h94

def L_precentorref9_Put_6 (P : Program) (call : FuncId → List AVal → Heap → Res AVal) (fuel : Nat) (t : T) (h : Heap) : Res (Ex × T) :=
lt okK fun k =>
lt (sqK (J_precentorref9_Put_7 P call fuel k) k) fun k95 =>
arb (.val (t 6) h) call fun v_96 h97 =>
arb (.val (t 0) h97) call fun v_98 h99 =>
arb (.of (lenL v_98) h99) call fun v_100 h101 =>
arb (.of (aBin P .lss 3 (.tmp 12) (.tmp 14) v_96 v_100) h101) call fun v_102 h103 =>
arb (.val v_102 h103) call fun v_104 h105 =>
gd (wantB v_104 true) (fun c => arb (.val (t 0) h105) call c) h105 fun v_106 h107 =>
gd (wantB v_104 true) (fun c => arb (.val (t 6) h107) call c) h107 fun v_108 h109 =>
gd (wantB v_104 true) (fun c => arb (.of (ixsR 1 v_106 v_108) h109) call c) h109 fun v_110 h111 =>
gd (wantB v_104 true) (fun c => arb (.of (ld1 h111 v_110) h111) call c) h111 fun v_112 h113 =>
gd (wantB v_104 true) (fun c => arb (.val (t 1) h113) call c) h113 fun v_114 h115 =>
gd (wantB v_104 true) (fun c => arb (.of (aBin P .lss 3 (.tmp 20) (.tmp 21) v_112 v_114) h115) call c) h115 fun v_116 h117 =>
arb (pkR v_104 v_116 (.bool false) h117) call fun v_118 h119 =>
cb v_118 (
k95 .normal (upd (upd (upd (upd (upd (upd (upd (upd (upd (upd (upd (upd t 12 v_96) 13 v_98) 14 v_100) 15 v_102) 16 v_104) 17 v_106) 18 v_108) 19 v_110) 20 v_112) 21 v_114) 22 v_116) 23 v_118) h119) (
k95 (.exit 0) (upd (upd (upd (upd (upd (upd (upd (upd (upd (upd (upd (upd t 12 v_96) 13 v_98) 14 v_100) 15 v_102) 16 v_104) 17 v_106) 18 v_108) 19 v_110) 20 v_112) 21 v_114) 22 v_116) 23 v_118) h119)

def J_precentorref9_Put_0 (P : Program) (call : FuncId → List AVal → Heap → Res AVal) (fuel : Nat) (k : Kn (AVal)) (t : T) (h : Heap) : Res (AVal) :=
arb (.val .nils h) call fun out_2 h3 =>
lt (sqK (J_precentorref9_Put_1 P call fuel k) k) fun k67 =>
arb (.val (.int .i64 0) h3) call fun i_68 h69 =>
lt (blkK 0 k67) fun k70 =>
(loopN (L_precentorref9_Put_6 P call fuel) fuel (upd (upd t 5 out_2) 6 i_68) h69).bind (lpK k70)

def S_precentorref9_Put (P : Program) (call : FuncId → List AVal → Heap → Res AVal) (fuel : Nat) (l_a0 n_a1 : AVal) (h : Heap) : Res AVal :=
lt (retK P [.tmp 4]) fun k =>
arb (.val .nils h) call fun v_0 h1 =>
lt (sqK (J_precentorref9_Put_0 P call fuel k) k) fun k120 =>
arb (.val l_a0 h1) call fun v_121 h122 =>
arb (.val n_a1 h122) call fun v_123 h124 =>
arb (.call F_precentorref9_In [v_121, v_123] h124) call fun v_125 h126 =>
cb v_125 (
arb (.val l_a0 h126) call fun v_127 h128 =>
arb (.val v_127 h128) call fun v_129 h130 =>
k120 .ret (upd (upd (upd (upd (upd (upd (enterT [l_a0, n_a1]) 4 v_0) 8 v_121) 9 v_123) 10 v_125) 11 v_127) 4 v_129) h130) (
k120 .normal (upd (upd (upd (upd (enterT [l_a0, n_a1]) 4 v_0) 8 v_121) 9 v_123) 10 v_125) h126)
theorem E_precentorref9_Put (call : FuncId → List AVal → Heap → Res AVal) (fuel : Nat) (l_a0 n_a1 : AVal) (h : Heap) : bodyR Try.prog call fuel Try.f40 [l_a0, n_a1] h = S_precentorref9_Put Try.prog call fuel l_a0 n_a1 h := by kernel_rfl
theorem R_precentorref9_Put {X : XTab} (l_a0 n_a1 : AVal) {h : Heap} {Q : AVal → Heap → Prop} (hx : X F_precentorref9_Put [l_a0, n_a1] = none) (q : Tells (fun m => S_precentorref9_Put Try.prog (acallX Try.prog X m) m l_a0 n_a1 h) Q) :
    Tells (fun m => acallX Try.prog X m F_precentorref9_Put [l_a0, n_a1] h) Q :=
  Tells.later (q.le fun m => (E_precentorref9_Put (acallX Try.prog X m) m l_a0 n_a1 h) ▸ acallX_le Try.func40 hx m h)

/-! ### precentor/precentorref9.between -/

def S_precentorref9_between (P : Program) (call : FuncId → List AVal → Heap → Res AVal) (fuel : Nat) (n_a0 a_a1 b_a2 : AVal) (h : Heap) : Res AVal :=
lt (retK P [.tmp 6]) fun k =>
arb (.val (.bool false) h) call fun v_0 h1 =>
arb (.val n_a0 h1) call fun v_2 h3 =>
arb (.val a_a1 h3) call fun v_4 h5 =>
arb (.of (aBin P .geq 3 (.tmp 7) (.tmp 8) v_2 v_4) h5) call fun v_6 h7 =>
arb (.val v_6 h7) call fun v_8 h9 =>
gd (wantB v_8 true) (fun c => arb (.val n_a0 h9) call c) h9 fun v_10 h11 =>
gd (wantB v_8 true) (fun c => arb (.val b_a2 h11) call c) h11 fun v_12 h13 =>
gd (wantB v_8 true) (fun c => arb (.of (aBin P .leq 3 (.tmp 11) (.tmp 12) v_10 v_12) h13) call c) h13 fun v_14 h15 =>
arb (pkR v_8 v_14 (.bool false) h15) call fun v_16 h17 =>
arb (.val v_16 h17) call fun v_18 h19 =>
k .ret (upd (upd (upd (upd (upd (upd (upd (upd (upd (upd (enterT [n_a0, a_a1, b_a2]) 6 v_0) 7 v_2) 8 v_4) 9 v_6) 10 v_8) 11 v_10) 12 v_12) 13 v_14) 14 v_16) 6 v_18) h19
theorem E_precentorref9_between (call : FuncId → List AVal → Heap → Res AVal) (fuel : Nat) (n_a0 a_a1 b_a2 : AVal) (h : Heap) : bodyR Try.prog call fuel Try.f45 [n_a0, a_a1, b_a2] h = S_precentorref9_between Try.prog call fuel n_a0 a_a1 b_a2 h := by kernel_rfl
theorem R_precentorref9_between {X : XTab} (n_a0 a_a1 b_a2 : AVal) {h : Heap} {Q : AVal → Heap → Prop} (hx : X F_precentorref9_between [n_a0, a_a1, b_a2] = none) (q : Tells (fun m => S_precentorref9_between Try.prog (acallX Try.prog X m) m n_a0 a_a1 b_a2 h) Q) :
    Tells (fun m => acallX Try.prog X m F_precentorref9_between [n_a0, a_a1, b_a2] h) Q :=
  Tells.later (q.le fun m => (E_precentorref9_between (acallX Try.prog X m) m n_a0 a_a1 b_a2 h) ▸ acallX_le Try.func45 hx m h)

/-! ### precentor/precentorref9.has -/

def S_precentorref9_has (P : Program) (call : FuncId → List AVal → Heap → Res AVal) (fuel : Nat) (p_a0 b_a1 : AVal) (h : Heap) : Res AVal :=
lt (retK P [.tmp 4]) fun k =>
arb (.val (.bool false) h) call fun v_0 h1 =>
arb (.val p_a0 h1) call fun v_2 h3 =>
arb (.call F_precentorref9_RightTree [v_2] h3) call fun v_4 h5 =>
arb (.val v_4 h5) call fun v_6 h7 =>
gd (wantB v_6 true) (fun c => arb (.val b_a1 h7) call c) h7 fun v_8 h9 =>
gd (wantB v_6 true) (fun c => arb (.of (aBin P .geq 3 (.tmp 8) (.const (.int .i64 0)) v_8 (.int .i64 0)) h9) call c) h9 fun v_10 h11 =>
arb (pkR v_6 v_10 (.bool false) h11) call fun v_12 h13 =>
arb (.val v_12 h13) call fun v_14 h15 =>
gd (wantB v_14 true) (fun c => arb (.val b_a1 h15) call c) h15 fun v_16 h17 =>
gd (wantB v_14 true) (fun c => arb (.val p_a0 h17) call c) h17 fun v_18 h19 =>
gd (wantB v_14 true) (fun c => arb (.of (lenL v_18) h19) call c) h19 fun v_20 h21 =>
gd (wantB v_14 true) (fun c => arb (.of (aBin P .leq 3 (.tmp 12) (.tmp 14) v_16 v_20) h21) call c) h21 fun v_22 h23 =>
arb (pkR v_14 v_22 (.bool false) h23) call fun v_24 h25 =>
arb (.val v_24 h25) call fun v_26 h27 =>
k .ret (upd (upd (upd (upd (upd (upd (upd (upd (upd (upd (upd (upd (upd (upd (enterT [p_a0, b_a1]) 4 v_0) 5 v_2) 6 v_4) 7 v_6) 8 v_8) 9 v_10) 10 v_12) 11 v_14) 12 v_16) 13 v_18) 14 v_20) 15 v_22) 16 v_24) 4 v_26) h27
theorem E_precentorref9_has (call : FuncId → List AVal → Heap → Res AVal) (fuel : Nat) (p_a0 b_a1 : AVal) (h : Heap) : bodyR Try.prog call fuel Try.f47 [p_a0, b_a1] h = S_precentorref9_has Try.prog call fuel p_a0 b_a1 h := by kernel_rfl
theorem R_precentorref9_has {X : XTab} (p_a0 b_a1 : AVal) {h : Heap} {Q : AVal → Heap → Prop} (hx : X F_precentorref9_has [p_a0, b_a1] = none) (q : Tells (fun m => S_precentorref9_has Try.prog (acallX Try.prog X m) m p_a0 b_a1 h) Q) :
    Tells (fun m => acallX Try.prog X m F_precentorref9_has [p_a0, b_a1] h) Q :=
  Tells.later (q.le fun m => (E_precentorref9_has (acallX Try.prog X m) m p_a0 b_a1 h) ▸ acallX_le Try.func47 hx m h)

/-! ### precentor/precentorref9.Dist -/
def J_precentorref9_Dist_0 (P : Program) (call : FuncId → List AVal → Heap → Res AVal) (fuel : Nat) (k : Kn (AVal)) (t : T) (h : Heap) : Res (AVal) :=
arb (.val (t 0) h) call fun v_2 h3 =>
arb (.val (t 1) h3) call fun v_4 h5 =>
arb (.val (t 2) h5) call fun v_6 h7 =>
arb (.call F_precentorref9_Way [v_2, v_4, v_6] h7) call fun v_8 h9 =>
arb (.of (lenL v_8) h9) call fun v_10 h11 =>
arb (.of (aBin P .sub 3 (.tmp 21) (.const (.int .i64 1)) v_10 (.int .i64 1)) h11) call fun v_12 h13 =>
arb (.val v_12 h13) call fun v_14 h15 =>
k .ret (upd (upd (upd (upd (upd (upd (upd t 17 v_2) 18 v_4) 19 v_6) 20 v_8) 21 v_10) 22 v_12) 6 v_14) h15

def S_precentorref9_Dist (P : Program) (call : FuncId → List AVal → Heap → Res AVal) (fuel : Nat) (p_a0 a_a1 b_a2 : AVal) (h : Heap) : Res AVal :=
lt (retK P [.tmp 6]) fun k =>
arb (.val (.int .i64 0) h) call fun v_0 h1 =>
lt (sqK (J_precentorref9_Dist_0 P call fuel k) k) fun k16 =>
arb (.val p_a0 h1) call fun v_17 h18 =>
arb (.val a_a1 h18) call fun v_19 h20 =>
arb (.call F_precentorref9_has [v_17, v_19] h20) call fun v_21 h22 =>
arb (.of (aUn P .not v_21) h22) call fun v_23 h24 =>
arb (.val v_23 h24) call fun v_25 h26 =>
gd (wantB v_25 false) (fun c => arb (.val p_a0 h26) call c) h26 fun v_27 h28 =>
gd (wantB v_25 false) (fun c => arb (.val b_a2 h28) call c) h28 fun v_29 h30 =>
gd (wantB v_25 false) (fun c => arb (.call F_precentorref9_has [v_27, v_29] h30) call c) h30 fun v_31 h32 =>
gd (wantB v_25 false) (fun c => arb (.of (aUn P .not v_31) h32) call c) h32 fun v_33 h34 =>
arb (pkR v_25 (.bool true) v_33 h34) call fun v_35 h36 =>
cb v_35 (
arb (.val (.int .i64 (-1)) h36) call fun v_37 h38 =>
k16 .ret (upd (upd (upd (upd (upd (upd (upd (upd (upd (upd (upd (upd (enterT [p_a0, a_a1, b_a2]) 6 v_0) 7 v_17) 8 v_19) 9 v_21) 10 v_23) 11 v_25) 12 v_27) 13 v_29) 14 v_31) 15 v_33) 16 v_35) 6 v_37) h38) (
k16 .normal (upd (upd (upd (upd (upd (upd (upd (upd (upd (upd (upd (enterT [p_a0, a_a1, b_a2]) 6 v_0) 7 v_17) 8 v_19) 9 v_21) 10 v_23) 11 v_25) 12 v_27) 13 v_29) 14 v_31) 15 v_33) 16 v_35) h36)
theorem E_precentorref9_Dist (call : FuncId → List AVal → Heap → Res AVal) (fuel : Nat) (p_a0 a_a1 b_a2 : AVal) (h : Heap) : bodyR Try.prog call fuel Try.f48 [p_a0, a_a1, b_a2] h = S_precentorref9_Dist Try.prog call fuel p_a0 a_a1 b_a2 h := by kernel_rfl
theorem R_precentorref9_Dist {X : XTab} (p_a0 a_a1 b_a2 : AVal) {h : Heap} {Q : AVal → Heap → Prop} (hx : X F_precentorref9_Dist [p_a0, a_a1, b_a2] = none) (q : Tells (fun m => S_precentorref9_Dist Try.prog (acallX Try.prog X m) m p_a0 a_a1 b_a2 h) Q) :
    Tells (fun m => acallX Try.prog X m F_precentorref9_Dist [p_a0, a_a1, b_a2] h) Q :=
  Tells.later (q.le fun m => (E_precentorref9_Dist (acallX Try.prog X m) m p_a0 a_a1 b_a2 h) ▸ acallX_le Try.func48 hx m h)

/-! ### precentor/precentorref9.Way -/
def J_precentorref9_Way_1 (P : Program) (call : FuncId → List AVal → Heap → Res AVal) (fuel : Nat) (k : Kn (AVal)) (t : T) (h : Heap) : Res (AVal) :=
arb (.val (t 7) h) call fun v_18 h19 =>
arb (.val v_18 h19) call fun v_20 h21 =>
k .ret (upd (upd t 63 v_18) 6 v_20) h21

def J_precentorref9_Way_4 (P : Program) (call : FuncId → List AVal → Heap → Res AVal) (fuel : Nat) (k : Kn (Ex × T)) (t : T) (h : Heap) : Res (Ex × T) :=
arb (.val (t 9) h) call fun v_32 h33 =>
arb (.of (aBin P .sub 3 (.tmp 54) (.const (.int .i64 1)) v_32 (.int .i64 1)) h33) call fun v_34 h35 =>
arb (.val v_34 h35) call fun i_36 h37 =>
k .normal (upd (upd (upd t 54 v_32) 55 v_34) 9 i_36) h37

def J_precentorref9_Way_3 (P : Program) (call : FuncId → List AVal → Heap → Res AVal) (fuel : Nat) (k : Kn (Ex × T)) (t : T) (h : Heap) : Res (Ex × T) :=
lt (sqK (J_precentorref9_Way_4 P call fuel k) k) fun k38 =>
lt (blkK 3 k38) fun k39 =>
arb (.val (t 7) h) call fun v_40 h41 =>
arb (.val (t 8) h41) call fun v_42 h43 =>
arb (.val (t 9) h43) call fun v_44 h45 =>
arb (.of (ixsR 1 v_42 v_44) h45) call fun v_46 h47 =>
arb (.of (ld1 h47 v_46) h47) call fun v_48 h49 =>
arb (bslR 1 [(.int .i64 0)] 1 h49 [(0, 1, v_48)]) call fun v_50 h51 =>
arb (appR 1 8 h51 v_40 v_50) call fun v_52 h53 =>
arb (.val v_52 h53) call fun x_54 h55 =>
k39 .normal (upd (upd (upd (upd (upd (upd (upd (upd t 56 v_40) 57 v_42) 58 v_44) 59 v_46) 60 v_48) 61 v_50) 62 v_52) 7 x_54) h55

def L_precentorref9_Way_2 (P : Program) (call : FuncId → List AVal → Heap → Res AVal) (fuel : Nat) (t : T) (h : Heap) : Res (Ex × T) :=
lt okK fun k =>
lt (sqK (J_precentorref9_Way_3 P call fuel k) k) fun k56 =>
arb (.val (t 9) h) call fun v_57 h58 =>
arb (.of (aBin P .geq 3 (.tmp 52) (.const (.int .i64 0)) v_57 (.int .i64 0)) h58) call fun v_59 h60 =>
cb v_59 (
k56 .normal (upd (upd t 52 v_57) 53 v_59) h60) (
k56 (.exit 2) (upd (upd t 52 v_57) 53 v_59) h60)

def J_precentorref9_Way_0 (P : Program) (call : FuncId → List AVal → Heap → Res AVal) (fuel : Nat) (k : Kn (AVal)) (t : T) (h : Heap) : Res (AVal) :=
lt (sqK (J_precentorref9_Way_1 P call fuel k) k) fun k22 =>
arb (.val (t 8) h) call fun v_23 h24 =>
arb (.of (lenL v_23) h24) call fun v_25 h26 =>
arb (.of (aBin P .sub 3 (.tmp 50) (.const (.int .i64 2)) v_25 (.int .i64 2)) h26) call fun v_27 h28 =>
arb (.val v_27 h28) call fun i_29 h30 =>
lt (blkK 2 k22) fun k31 =>
(loopN (L_precentorref9_Way_2 P call fuel) fuel (upd (upd (upd (upd t 49 v_23) 50 v_25) 51 v_27) 9 i_29) h30).bind (lpK k31)

def J_precentorref9_Way_6 (P : Program) (call : FuncId → List AVal → Heap → Res AVal) (fuel : Nat) (k : Kn (Ex × T)) (t : T) (h : Heap) : Res (Ex × T) :=
lt (blkK 1 k) fun k63 =>
arb (.val (t 7) h) call fun v_64 h65 =>
arb (.val (t 7) h65) call fun v_66 h67 =>
arb (.of (lenL v_66) h67) call fun v_68 h69 =>
arb (.of (aBin P .sub 3 (.tmp 41) (.const (.int .i64 1)) v_68 (.int .i64 1)) h69) call fun v_70 h71 =>
arb (.of (slcR 1 v_64 none (some v_70) none) h71) call fun v_72 h73 =>
arb (.val v_72 h73) call fun x_74 h75 =>
arb (.val (t 8) h75) call fun v_76 h77 =>
arb (.val (t 8) h77) call fun v_78 h79 =>
arb (.of (lenL v_78) h79) call fun v_80 h81 =>
arb (.of (aBin P .sub 3 (.tmp 46) (.const (.int .i64 1)) v_80 (.int .i64 1)) h81) call fun v_82 h83 =>
arb (.of (slcR 1 v_76 none (some v_82) none) h83) call fun v_84 h85 =>
arb (.val v_84 h85) call fun y_86 h87 =>
k63 .normal (upd (upd (upd (upd (upd (upd (upd (upd (upd (upd (upd (upd t 39 v_64) 40 v_66) 41 v_68) 42 v_70) 43 v_72) 7 x_74) 44 v_76) 45 v_78) 46 v_80) 47 v_82) 48 v_84) 8 y_86) h87

def L_precentorref9_Way_5 (P : Program) (call : FuncId → List AVal → Heap → Res AVal) (fuel : Nat) (t : T) (h : Heap) : Res (Ex × T) :=
lt okK fun k =>
lt (sqK (J_precentorref9_Way_6 P call fuel k) k) fun k88 =>
obv (.val (t 7) h) fun v_89 =>
obv (.of (lenL v_89) h) fun v_90 =>
obv (.of (aBin P .gtr 3 (.tmp 17) (.const (.int .i64 1)) v_90 (.int .i64 1)) h) fun v_91 =>
obv (.val v_91 h) fun v_92 =>
gd (wantB v_92 true) (fun c => obv (.val (t 8) h) fun v => c v h) h fun v_93 h94 =>
gd (wantB v_92 true) (fun c => obv (.of (lenL v_93) h94) fun v => c v h94) h94 fun v_95 h96 =>
gd (wantB v_92 true) (fun c => obv (.of (aBin P .gtr 3 (.tmp 21) (.const (.int .i64 1)) v_95 (.int .i64 1)) h96) fun v => c v h96) h96 fun v_97 h98 =>
obv (pkR v_92 v_97 (.bool false) h98) fun v_99 =>
obv (.val v_99 h98) fun v_100 =>
gd (wantB v_100 true) (fun c => obv (.val (t 7) h98) fun v => c v h98) h98 fun v_101 h102 =>
gd (wantB v_100 true) (fun c => obv (.val (t 7) h102) fun v => c v h102) h102 fun v_103 h104 =>
gd (wantB v_100 true) (fun c => obv (.of (lenL v_103) h104) fun v => c v h104) h104 fun v_105 h106 =>
gd (wantB v_100 true) (fun c => obv (.of (aBin P .sub 3 (.tmp 27) (.const (.int .i64 2)) v_105 (.int .i64 2)) h106) fun v => c v h106) h106 fun v_107 h108 =>
gd (wantB v_100 true) (fun c => obv (.of (ixsR 1 v_101 v_107) h108) fun v => c v h108) h108 fun v_109 h110 =>
gd (wantB v_100 true) (fun c => obv (.of (ld1 h110 v_109) h110) fun v => c v h110) h110 fun v_111 h112 =>
gd (wantB v_100 true) (fun c => obv (.val (t 8) h112) fun v => c v h112) h112 fun v_113 h114 =>
gd (wantB v_100 true) (fun c => obv (.val (t 8) h114) fun v => c v h114) h114 fun v_115 h116 =>
gd (wantB v_100 true) (fun c => obv (.of (lenL v_115) h116) fun v => c v h116) h116 fun v_117 h118 =>
gd (wantB v_100 true) (fun c => obv (.of (aBin P .sub 3 (.tmp 33) (.const (.int .i64 2)) v_117 (.int .i64 2)) h118) fun v => c v h118) h118 fun v_119 h120 =>
gd (wantB v_100 true) (fun c => obv (.of (ixsR 1 v_113 v_119) h120) fun v => c v h120) h120 fun v_121 h122 =>
gd (wantB v_100 true) (fun c => obv (.of (ld1 h122 v_121) h122) fun v => c v h122) h122 fun v_123 h124 =>
gd (wantB v_100 true) (fun c => obv (.of (aBin P .eql 3 (.tmp 30) (.tmp 36) v_111 v_123) h124) fun v => c v h124) h124 fun v_125 h126 =>
obv (pkR v_100 v_125 (.bool false) h126) fun v_127 =>
cb v_127 (
k88 .normal (upd (upd (upd (upd (upd (upd (upd (upd (upd (upd (upd (upd (upd (upd (upd (upd (upd (upd (upd (upd (upd (upd (upd t 16 v_89) 17 v_90) 18 v_91) 19 v_92) 20 v_93) 21 v_95) 22 v_97) 23 v_99) 24 v_100) 25 v_101) 26 v_103) 27 v_105) 28 v_107) 29 v_109) 30 v_111) 31 v_113) 32 v_115) 33 v_117) 34 v_119) 35 v_121) 36 v_123) 37 v_125) 38 v_127) h126) (
k88 (.exit 0) (upd (upd (upd (upd (upd (upd (upd (upd (upd (upd (upd (upd (upd (upd (upd (upd (upd (upd (upd (upd (upd (upd (upd t 16 v_89) 17 v_90) 18 v_91) 19 v_92) 20 v_93) 21 v_95) 22 v_97) 23 v_99) 24 v_100) 25 v_101) 26 v_103) 27 v_105) 28 v_107) 29 v_109) 30 v_111) 31 v_113) 32 v_115) 33 v_117) 34 v_119) 35 v_121) 36 v_123) 37 v_125) 38 v_127) h126)

def S_precentorref9_Way (P : Program) (call : FuncId → List AVal → Heap → Res AVal) (fuel : Nat) (p_a0 a_a1 b_a2 : AVal) (h : Heap) : Res AVal :=
lt (retK P [.tmp 6]) fun k =>
arb (.val .nils h) call fun v_0 h1 =>
arb (.val p_a0 h1) call fun v_2 h3 =>
arb (.val a_a1 h3) call fun v_4 h5 =>
arb (.call F_precentorref9_up [v_2, v_4] h5) call fun v_6 h7 =>
arb (.val v_6 h7) call fun x_8 h9 =>
arb (.val p_a0 h9) call fun v_10 h11 =>
arb (.val b_a2 h11) call fun v_12 h13 =>
arb (.call F_precentorref9_up [v_10, v_12] h13) call fun v_14 h15 =>
arb (.val v_14 h15) call fun y_16 h17 =>
lt (sqK (J_precentorref9_Way_0 P call fuel k) k) fun k61 =>
lt (blkK 0 k61) fun k62 =>
(loopN (L_precentorref9_Way_5 P call fuel) fuel (upd (upd (upd (upd (upd (upd (upd (upd (upd (enterT [p_a0, a_a1, b_a2]) 6 v_0) 10 v_2) 11 v_4) 12 v_6) 7 x_8) 13 v_10) 14 v_12) 15 v_14) 8 y_16) h17).bind (lpK k62)
theorem E_precentorref9_Way (call : FuncId → List AVal → Heap → Res AVal) (fuel : Nat) (p_a0 a_a1 b_a2 : AVal) (h : Heap) : bodyR Try.prog call fuel Try.f55 [p_a0, a_a1, b_a2] h = S_precentorref9_Way Try.prog call fuel p_a0 a_a1 b_a2 h := by kernel_rfl
theorem R_precentorref9_Way {X : XTab} (p_a0 a_a1 b_a2 : AVal) {h : Heap} {Q : AVal → Heap → Prop} (hx : X F_precentorref9_Way [p_a0, a_a1, b_a2] = none) (q : Tells (fun m => S_precentorref9_Way Try.prog (acallX Try.prog X m) m p_a0 a_a1 b_a2 h) Q) :
    Tells (fun m => acallX Try.prog X m F_precentorref9_Way [p_a0, a_a1, b_a2] h) Q :=
  Tells.later (q.le fun m => (E_precentorref9_Way (acallX Try.prog X m) m p_a0 a_a1 b_a2 h) ▸ acallX_le Try.func55 hx m h)

/-! ### precentor/precentorref9.up -/
def J_precentorref9_up_0 (P : Program) (call : FuncId → List AVal → Heap → Res AVal) (fuel : Nat) (k : Kn (AVal)) (t : T) (h : Heap) : Res (AVal) :=
arb (.val (t 5) h) call fun v_8 h9 =>
arb (.val v_8 h9) call fun v_10 h11 =>
k .ret (upd (upd t 19 v_8) 4 v_10) h11

def J_precentorref9_up_2 (P : Program) (call : FuncId → List AVal → Heap → Res AVal) (fuel : Nat) (k : Kn (Ex × T)) (t : T) (h : Heap) : Res (Ex × T) :=
lt (blkK 1 k) fun k14 =>
arb (.val (t 0) h) call fun v_15 h16 =>
arb (.val (t 1) h16) call fun v_17 h18 =>
arb (.of (aBin P .sub 3 (.tmp 11) (.const (.int .i64 1)) v_17 (.int .i64 1)) h18) call fun v_19 h20 =>
arb (.of (ixsR 1 v_15 v_19) h20) call fun v_21 h22 =>
arb (.of (ld1 h22 v_21) h22) call fun v_23 h24 =>
arb (.val v_23 h24) call fun b_25 h26 =>
arb (.val (t 5) h26) call fun v_27 h28 =>
arb (.val b_25 h28) call fun v_29 h30 =>
arb (bslR 1 [(.int .i64 0)] 1 h30 [(0, 1, v_29)]) call fun v_31 h32 =>
arb (appR 1 8 h32 v_27 v_31) call fun v_33 h34 =>
arb (.val v_33 h34) call fun l_35 h36 =>
k14 .normal (upd (upd (upd (upd (upd (upd (upd (upd (upd (upd (upd t 10 v_15) 11 v_17) 12 v_19) 13 v_21) 14 v_23) 1 b_25) 15 v_27) 16 v_29) 17 v_31) 18 v_33) 5 l_35) h36

def L_precentorref9_up_1 (P : Program) (call : FuncId → List AVal → Heap → Res AVal) (fuel : Nat) (t : T) (h : Heap) : Res (Ex × T) :=
lt okK fun k =>
lt (sqK (J_precentorref9_up_2 P call fuel k) k) fun k37 =>
arb (.val (t 1) h) call fun v_38 h39 =>
arb (.of (aBin P .gtr 3 (.tmp 8) (.const (.int .i64 0)) v_38 (.int .i64 0)) h39) call fun v_40 h41 =>
cb v_40 (
k37 .normal (upd (upd t 8 v_38) 9 v_40) h41) (
k37 (.exit 0) (upd (upd t 8 v_38) 9 v_40) h41)

def S_precentorref9_up (P : Program) (call : FuncId → List AVal → Heap → Res AVal) (fuel : Nat) (p_a0 b_a1 : AVal) (h : Heap) : Res AVal :=
lt (retK P [.tmp 4]) fun k =>
arb (.val .nils h) call fun v_0 h1 =>
arb (.val b_a1 h1) call fun v_2 h3 =>
arb (bslR 1 [(.int .i64 0)] 1 h3 [(0, 1, v_2)]) call fun v_4 h5 =>
arb (.val v_4 h5) call fun l_6 h7 =>
lt (sqK (J_precentorref9_up_0 P call fuel k) k) fun k12 =>
lt (blkK 0 k12) fun k13 =>
(loopN (L_precentorref9_up_1 P call fuel) fuel (upd (upd (upd (upd (enterT [p_a0, b_a1]) 4 v_0) 6 v_2) 7 v_4) 5 l_6) h7).bind (lpK k13)
theorem E_precentorref9_up (call : FuncId → List AVal → Heap → Res AVal) (fuel : Nat) (p_a0 b_a1 : AVal) (h : Heap) : bodyR Try.prog call fuel Try.f67 [p_a0, b_a1] h = S_precentorref9_up Try.prog call fuel p_a0 b_a1 h := by kernel_rfl
theorem R_precentorref9_up {X : XTab} (p_a0 b_a1 : AVal) {h : Heap} {Q : AVal → Heap → Prop} (hx : X F_precentorref9_up [p_a0, b_a1] = none) (q : Tells (fun m => S_precentorref9_up Try.prog (acallX Try.prog X m) m p_a0 b_a1 h) Q) :
    Tells (fun m => acallX Try.prog X m F_precentorref9_up [p_a0, b_a1] h) Q :=
  Tells.later (q.le fun m => (E_precentorref9_up (acallX Try.prog X m) m p_a0 b_a1 h) ▸ acallX_le Try.func67 hx m h)


end Go.Proofs.Ytbkfamdkdjajjaa
