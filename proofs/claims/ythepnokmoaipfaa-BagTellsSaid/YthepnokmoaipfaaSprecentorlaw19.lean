/-
  Functions of precentorlaw19 in the form of YthepnokmoaipfaaABS (printed by a program of ours, gen.lean).
-/
import Derived.Test.YthepnokmoaipfaaSIds
set_option linter.unusedVariables false
namespace Go.Proofs.Ythepnokmoaipfaa
open Go.Ab
/-! ### precentor/precentorlaw19.BagKnown -/
def J_precentorlaw19_BagKnown_1 (P : Program) (call : FuncId → List AVal → Heap → Res AVal) (fuel : Nat) (k : Kn (AVal)) (t : T) (h : Heap) : Res (AVal) :=
arb (.call F_precentorlaw19_datagram [(.int .i64 1)] h) call fun v_54 h55 =>
arb (.call F_precentorlaw19_datagram [(.int .i64 2)] h55) call fun v_56 h57 =>
arb (bslR 3 [(.int .i64 0), (.int .i64 0), .nils, (.int .i64 0), (.int .i64 0), .nils] 2 h57 [(0, 3, v_54), (3, 3, v_56)]) call fun v_58 h59 =>
arb (.call F_bag_Bag_Put [(t 1), v_58] h59) call fun v_60 h61 =>
arb (.of (aBin P .eql 3 (.tmp 84) (.const (.int .i64 0)) v_60 (.int .i64 0)) h61) call fun v_62 h63 =>
arb (.val v_62 h63) call fun v_64 h65 =>
gd (wantB v_64 true) (fun c => arb (.call F_bag_Bag_Twice [(t 1), (.int .i64 0)] h65) call c) h65 fun v_66 h67 =>
gd (wantB v_64 true) (fun c => arb (.of (aUn P .not v_66) h67) call c) h67 fun v_68 h69 =>
arb (pkR v_64 v_68 (.bool false) h69) call fun v_70 h71 =>
arb (.val v_70 h71) call fun v_72 h73 =>
gd (wantB v_72 true) (fun c => arb (.call F_bag_Bag_Drop [(t 1), (.int .i64 0)] h73) call c) h73 fun v_74 h75 =>
arb (pkR v_72 v_74 (.bool false) h75) call fun v_76 h77 =>
arb (.val v_76 h77) call fun v_78 h79 =>
gd (wantB v_78 true) (fun c => arb (.call F_precentorlaw19_datagram [(.int .i64 3)] h79) call c) h79 fun v_80 h81 =>
gd (wantB v_78 true) (fun c => arb (.call F_precentorlaw19_datagram [(.int .i64 4)] h81) call c) h81 fun v_82 h83 =>
gd (wantB v_78 true) (fun c => arb (bslR 3 [(.int .i64 0), (.int .i64 0), .nils, (.int .i64 0), (.int .i64 0), .nils] 2 h83 [(0, 3, v_80), (3, 3, v_82)]) call c) h83 fun v_84 h85 =>
gd (wantB v_78 true) (fun c => arb (.call F_bag_Bag_Put [(t 1), v_84] h85) call c) h85 fun v_86 h87 =>
gd (wantB v_78 true) (fun c => arb (.of (aBin P .eql 3 (.tmp 97) (.const (.int .i64 1)) v_86 (.int .i64 1)) h87) call c) h87 fun v_88 h89 =>
arb (pkR v_78 v_88 (.bool false) h89) call fun v_90 h91 =>
arb (.val v_90 h91) call fun v_92 h93 =>
gd (wantB v_92 true) (fun c => arb (.call F_bag_Bag_Len [(t 1)] h93) call c) h93 fun v_94 h95 =>
gd (wantB v_92 true) (fun c => arb (.of (aBin P .eql 3 (.tmp 101) (.const (.int .i64 600)) v_94 (.int .i64 600)) h95) call c) h95 fun v_96 h97 =>
arb (pkR v_92 v_96 (.bool false) h97) call fun v_98 h99 =>
arb (.val v_98 h99) call fun v_100 h101 =>
gd (wantB v_100 true) (fun c => arb (.call F_bag_Bag_Put [(t 1), .nils] h101) call c) h101 fun v_102 h103 =>
gd (wantB v_100 true) (fun c => arb (.of (aBin P .eql 3 (.tmp 105) (.const (.int .i64 0)) v_102 (.int .i64 0)) h103) call c) h103 fun v_104 h105 =>
arb (pkR v_100 v_104 (.bool false) h105) call fun v_106 h107 =>
arb (.val v_106 h107) call fun v_108 h109 =>
k .ret (upd (upd (upd (upd (upd (upd (upd (upd (upd (upd (upd (upd (upd (upd (upd (upd (upd (upd (upd (upd (upd (upd (upd (upd (upd (upd (upd (upd t 81 v_54) 82 v_56) 83 v_58) 84 v_60) 85 v_62) 86 v_64) 87 v_66) 88 v_68) 89 v_70) 90 v_72) 91 v_74) 92 v_76) 93 v_78) 94 v_80) 95 v_82) 96 v_84) 97 v_86) 98 v_88) 99 v_90) 100 v_92) 101 v_94) 102 v_96) 103 v_98) 104 v_100) 105 v_102) 106 v_104) 107 v_106) 0 v_108) h109

def J_precentorlaw19_BagKnown_4 (P : Program) (call : FuncId → List AVal → Heap → Res AVal) (fuel : Nat) (k : Kn (Ex × T)) (t : T) (h : Heap) : Res (Ex × T) :=
arb (.val (t 9) h) call fun v_114 h115 =>
arb (.of (aBin P .add 3 (.tmp 74) (.const (.int .i64 1)) v_114 (.int .i64 1)) h115) call fun v_116 h117 =>
arb (.val v_116 h117) call fun i_118 h119 =>
k .normal (upd (upd (upd t 74 v_114) 75 v_116) 9 i_118) h119

def J_precentorlaw19_BagKnown_3 (P : Program) (call : FuncId → List AVal → Heap → Res AVal) (fuel : Nat) (k : Kn (Ex × T)) (t : T) (h : Heap) : Res (Ex × T) :=
lt (sqK (J_precentorlaw19_BagKnown_4 P call fuel k) k) fun k120 =>
lt (blkK 1 k120) fun k121 =>
arb (.val (t 9) h) call fun v_122 h123 =>
arb (.call F_precentorlaw19_datagram [v_122] h123) call fun v_124 h125 =>
arb (bslR 3 [(.int .i64 0), (.int .i64 0), .nils] 1 h125 [(0, 3, v_124)]) call fun v_126 h127 =>
arb (.call F_bag_Bag_Put [(t 1), v_126] h127) call fun v_128 h129 =>
arb (.of (aBin P .neq 3 (.tmp 79) (.const (.int .i64 1)) v_128 (.int .i64 1)) h129) call fun v_130 h131 =>
cb v_130 (
arb (.val (.bool false) h131) call fun v_132 h133 =>
k121 .ret (upd (upd (upd (upd (upd (upd t 76 v_122) 77 v_124) 78 v_126) 79 v_128) 80 v_130) 0 v_132) h133) (
k121 .normal (upd (upd (upd (upd (upd t 76 v_122) 77 v_124) 78 v_126) 79 v_128) 80 v_130) h131)

def L_precentorlaw19_BagKnown_2 (P : Program) (call : FuncId → List AVal → Heap → Res AVal) (fuel : Nat) (t : T) (h : Heap) : Res (Ex × T) :=
lt okK fun k =>
lt (sqK (J_precentorlaw19_BagKnown_3 P call fuel k) k) fun k134 =>
arb (.val (t 9) h) call fun v_135 h136 =>
arb (.of (aBin P .lss 3 (.tmp 72) (.const (.int .i64 598)) v_135 (.int .i64 598)) h136) call fun v_137 h138 =>
cb v_137 (
k134 .normal (upd (upd t 72 v_135) 73 v_137) h138) (
k134 (.exit 0) (upd (upd t 72 v_135) 73 v_137) h138)

def J_precentorlaw19_BagKnown_0 (P : Program) (call : FuncId → List AVal → Heap → Res AVal) (fuel : Nat) (k : Kn (AVal)) (t : T) (h : Heap) : Res (AVal) :=
lt (sqK (J_precentorlaw19_BagKnown_1 P call fuel k) k) fun k110 =>
arb (.val (.int .i64 0) h) call fun i_111 h112 =>
lt (blkK 0 k110) fun k113 =>
(loopN (L_precentorlaw19_BagKnown_2 P call fuel) fuel (upd t 9 i_111) h112).bind (lpK k113)

def S_precentorlaw19_BagKnown (P : Program) (call : FuncId → List AVal → Heap → Res AVal) (fuel : Nat) (h : Heap) : Res AVal :=
lt (retK P [.tmp 0]) fun k =>
arb (.val (.bool false) h) call fun v_0 h1 =>
arb (.of (bldR [.nils] []) h1) call fun v_2 h3 =>
arb (newR [.nils] h3) call fun b_4 h5 =>
arb (stR 1 h5 b_4 v_2) call fun v_6 h7 =>
arb (.call F_precentorlaw19_datagram [(.int .i64 1)] h7) call fun v_8 h9 =>
arb (.call F_precentorlaw19_datagram [(.int .i64 2)] h9) call fun v_10 h11 =>
arb (bslR 3 [(.int .i64 0), (.int .i64 0), .nils, (.int .i64 0), (.int .i64 0), .nils] 2 h11 [(0, 3, v_8), (3, 3, v_10)]) call fun v_12 h13 =>
arb (.call F_bag_Bag_Put [b_4, v_12] h13) call fun v_14 h15 =>
arb (.val v_14 h15) call fun n_16 h17 =>
arb (.call F_bag_Bag_Twice [b_4, (.int .i64 0)] h17) call fun v_18 h19 =>
arb (.val v_18 h19) call fun t_20 h21 =>
arb (.call F_bag_Bag_Take [b_4, (.int .i64 1)] h21) call fun v_22 h23 =>
arb (.val v_22 h23) call fun v_24 h25 =>
arb (extR v_24 0 h25) call fun v_26 h27 =>
arb (extR v_24 1 h27) call fun v_28 h29 =>
arb (newR [(.int .i64 0), (.int .i64 0), .nils] h29) call fun d_30 h31 =>
arb (stR 3 h31 d_30 v_26) call fun v_32 h33 =>
arb (.val v_28 h33) call fun ok_34 h35 =>
arb (.call F_bag_Bag_Take [b_4, (.int .i64 5)] h35) call fun v_36 h37 =>
arb (.val v_36 h37) call fun v_38 h39 =>
arb (extR v_38 0 h39) call fun v_40 h41 =>
arb (extR v_38 1 h41) call fun v_42 h43 =>
arb (newR [(.int .i64 0), (.int .i64 0), .nils] h43) call fun v_44 h45 =>
arb (stR 3 h45 v_44 v_40) call fun v_46 h47 =>
arb (.val v_42 h47) call fun no_48 h49 =>
arb (.call F_bag_Bag_All [b_4] h49) call fun v_50 h51 =>
arb (.val v_50 h51) call fun l_52 h53 =>
lt (sqK (J_precentorlaw19_BagKnown_0 P call fuel k) k) fun k139 =>
arb (.val n_16 h53) call fun v_140 h141 =>
arb (.of (aBin P .neq 3 (.tmp 25) (.const (.int .i64 2)) v_140 (.int .i64 2)) h141) call fun v_142 h143 =>
arb (.val v_142 h143) call fun v_144 h145 =>
gd (wantB v_144 false) (fun c => arb (.val t_20 h145) call c) h145 fun v_146 h147 =>
gd (wantB v_144 false) (fun c => arb (.of (aUn P .not v_146) h147) call c) h147 fun v_148 h149 =>
arb (pkR v_144 (.bool true) v_148 h149) call fun v_150 h151 =>
arb (.val v_150 h151) call fun v_152 h153 =>
gd (wantB v_152 false) (fun c => arb (.val ok_34 h153) call c) h153 fun v_154 h155 =>
gd (wantB v_152 false) (fun c => arb (.of (aUn P .not v_154) h155) call c) h155 fun v_156 h157 =>
arb (pkR v_152 (.bool true) v_156 h157) call fun v_158 h159 =>
arb (.val v_158 h159) call fun v_160 h161 =>
gd (wantB v_160 false) (fun c => arb (.of (fadR 0 d_30) h161) call c) h161 fun v_162 h163 =>
gd (wantB v_160 false) (fun c => arb (.of (ld1 h163 v_162) h163) call c) h163 fun v_164 h165 =>
gd (wantB v_160 false) (fun c => arb (.of (aBin P .neq 3 (.tmp 37) (.const (.int .i64 2)) v_164 (.int .i64 2)) h165) call c) h165 fun v_166 h167 =>
arb (pkR v_160 (.bool true) v_166 h167) call fun v_168 h169 =>
arb (.val v_168 h169) call fun v_170 h171 =>
gd (wantB v_170 false) (fun c => arb (.val no_48 h171) call c) h171 fun v_172 h173 =>
arb (pkR v_170 (.bool true) v_172 h173) call fun v_174 h175 =>
arb (.val v_174 h175) call fun v_176 h177 =>
gd (wantB v_176 false) (fun c => arb (.val l_52 h177) call c) h177 fun v_178 h179 =>
gd (wantB v_176 false) (fun c => arb (.of (lenL v_178) h179) call c) h179 fun v_180 h181 =>
gd (wantB v_176 false) (fun c => arb (.of (aBin P .neq 3 (.tmp 45) (.const (.int .i64 2)) v_180 (.int .i64 2)) h181) call c) h181 fun v_182 h183 =>
arb (pkR v_176 (.bool true) v_182 h183) call fun v_184 h185 =>
arb (.val v_184 h185) call fun v_186 h187 =>
gd (wantB v_186 false) (fun c => arb (.val l_52 h187) call c) h187 fun v_188 h189 =>
gd (wantB v_186 false) (fun c => arb (.of (ixsR 3 v_188 (.int .i64 0)) h189) call c) h189 fun v_190 h191 =>
gd (wantB v_186 false) (fun c => arb (.of (fadR 0 v_190) h191) call c) h191 fun v_192 h193 =>
gd (wantB v_186 false) (fun c => arb (.of (ld1 h193 v_192) h193) call c) h193 fun v_194 h195 =>
gd (wantB v_186 false) (fun c => arb (.of (aBin P .neq 3 (.tmp 52) (.const (.int .i64 1)) v_194 (.int .i64 1)) h195) call c) h195 fun v_196 h197 =>
arb (pkR v_186 (.bool true) v_196 h197) call fun v_198 h199 =>
arb (.val v_198 h199) call fun v_200 h201 =>
gd (wantB v_200 false) (fun c => arb (.val l_52 h201) call c) h201 fun v_202 h203 =>
gd (wantB v_200 false) (fun c => arb (.of (ixsR 3 v_202 (.int .i64 1)) h203) call c) h203 fun v_204 h205 =>
gd (wantB v_200 false) (fun c => arb (.of (fadR 0 v_204) h205) call c) h205 fun v_206 h207 =>
gd (wantB v_200 false) (fun c => arb (.of (ld1 h207 v_206) h207) call c) h207 fun v_208 h209 =>
gd (wantB v_200 false) (fun c => arb (.of (aBin P .neq 3 (.tmp 59) (.const (.int .i64 1)) v_208 (.int .i64 1)) h209) call c) h209 fun v_210 h211 =>
arb (pkR v_200 (.bool true) v_210 h211) call fun v_212 h213 =>
arb (.val v_212 h213) call fun v_214 h215 =>
gd (wantB v_214 false) (fun c => arb (.call F_bag_Bag_Len [b_4] h215) call c) h215 fun v_216 h217 =>
gd (wantB v_214 false) (fun c => arb (.of (aBin P .neq 3 (.tmp 63) (.const (.int .i64 2)) v_216 (.int .i64 2)) h217) call c) h217 fun v_218 h219 =>
arb (pkR v_214 (.bool true) v_218 h219) call fun v_220 h221 =>
arb (.val v_220 h221) call fun v_222 h223 =>
gd (wantB v_222 false) (fun c => arb (.call F_bag_Bag_Drop [b_4, (.int .i64 (-1))] h223) call c) h223 fun v_224 h225 =>
arb (pkR v_222 (.bool true) v_224 h225) call fun v_226 h227 =>
arb (.val v_226 h227) call fun v_228 h229 =>
gd (wantB v_228 false) (fun c => arb (.call F_bag_Bag_Twice [b_4, (.int .i64 2)] h229) call c) h229 fun v_230 h231 =>
arb (pkR v_228 (.bool true) v_230 h231) call fun v_232 h233 =>
cb v_232 (
arb (.val (.bool false) h233) call fun v_234 h235 =>
k139 .ret (upd (upd (upd (upd (upd (upd (upd (upd (upd (upd (upd (upd (upd (upd (upd (upd (upd (upd (upd (upd (upd (upd (upd (upd (upd (upd (upd (upd (upd (upd (upd (upd (upd (upd (upd (upd (upd (upd (upd (upd (upd (upd (upd (upd (upd (upd (upd (upd (upd (upd (upd (upd (upd (upd (upd (upd (upd (upd (upd (upd (upd (upd (upd (upd (upd (upd (upd (upd (upd (upd (upd (upd (enterT []) 0 v_0) 10 v_2) 1 b_4) 11 v_8) 12 v_10) 13 v_12) 14 v_14) 2 n_16) 15 v_18) 3 t_20) 17 v_22) 16 v_24) 18 v_26) 19 v_28) 4 d_30) 5 ok_34) 21 v_36) 20 v_38) 22 v_40) 23 v_42) 6 v_44) 7 no_48) 24 v_50) 8 l_52) 25 v_140) 26 v_142) 27 v_144) 28 v_146) 29 v_148) 30 v_150) 31 v_152) 32 v_154) 33 v_156) 34 v_158) 35 v_160) 36 v_162) 37 v_164) 38 v_166) 39 v_168) 40 v_170) 41 v_172) 42 v_174) 43 v_176) 44 v_178) 45 v_180) 46 v_182) 47 v_184) 48 v_186) 49 v_188) 50 v_190) 51 v_192) 52 v_194) 53 v_196) 54 v_198) 55 v_200) 56 v_202) 57 v_204) 58 v_206) 59 v_208) 60 v_210) 61 v_212) 62 v_214) 63 v_216) 64 v_218) 65 v_220) 66 v_222) 67 v_224) 68 v_226) 69 v_228) 70 v_230) 71 v_232) 0 v_234) h235) (
k139 .normal (upd (upd (upd (upd (upd (upd (upd (upd (upd (upd (upd (upd (upd (upd (upd (upd (upd (upd (upd (upd (upd (upd (upd (upd (upd (upd (upd (upd (upd (upd (upd (upd (upd (upd (upd (upd (upd (upd (upd (upd (upd (upd (upd (upd (upd (upd (upd (upd (upd (upd (upd (upd (upd (upd (upd (upd (upd (upd (upd (upd (upd (upd (upd (upd (upd (upd (upd (upd (upd (upd (upd (enterT []) 0 v_0) 10 v_2) 1 b_4) 11 v_8) 12 v_10) 13 v_12) 14 v_14) 2 n_16) 15 v_18) 3 t_20) 17 v_22) 16 v_24) 18 v_26) 19 v_28) 4 d_30) 5 ok_34) 21 v_36) 20 v_38) 22 v_40) 23 v_42) 6 v_44) 7 no_48) 24 v_50) 8 l_52) 25 v_140) 26 v_142) 27 v_144) 28 v_146) 29 v_148) 30 v_150) 31 v_152) 32 v_154) 33 v_156) 34 v_158) 35 v_160) 36 v_162) 37 v_164) 38 v_166) 39 v_168) 40 v_170) 41 v_172) 42 v_174) 43 v_176) 44 v_178) 45 v_180) 46 v_182) 47 v_184) 48 v_186) 49 v_188) 50 v_190) 51 v_192) 52 v_194) 53 v_196) 54 v_198) 55 v_200) 56 v_202) 57 v_204) 58 v_206) 59 v_208) 60 v_210) 61 v_212) 62 v_214) 63 v_216) 64 v_218) 65 v_220) 66 v_222) 67 v_224) 68 v_226) 69 v_228) 70 v_230) 71 v_232) h233)
theorem E_precentorlaw19_BagKnown (call : FuncId → List AVal → Heap → Res AVal) (fuel : Nat) (h : Heap) : bodyR Try.prog call fuel Try.f3 [] h = S_precentorlaw19_BagKnown Try.prog call fuel  h := by kernel_rfl
theorem R_precentorlaw19_BagKnown {X : XTab} {h : Heap} {Q : AVal → Heap → Prop} (hx : X F_precentorlaw19_BagKnown [] = none) (q : Tells (fun m => S_precentorlaw19_BagKnown Try.prog (acallX Try.prog X m) m  h) Q) :
    Tells (fun m => acallX Try.prog X m F_precentorlaw19_BagKnown [] h) Q :=
  Tells.later (q.le fun m => (E_precentorlaw19_BagKnown (acallX Try.prog X m) m  h) ▸ acallX_le Try.func3 hx m h)

/-! ### precentor/precentorlaw19.BagTells -/
def J_precentorlaw19_BagTells_0 (P : Program) (call : FuncId → List AVal → Heap → Res AVal) (fuel : Nat) (k : Kn (AVal)) (t : T) (h : Heap) : Res (AVal) :=
arb (.call F_precentorlaw19_known [] h) call fun v_22 h23 =>
arb (.val v_22 h23) call fun v_24 h25 =>
k .ret (upd (upd t 123 v_22) 4 v_24) h25

def J_precentorlaw19_BagTells_3 (P : Program) (call : FuncId → List AVal → Heap → Res AVal) (fuel : Nat) (k : Kn (Ex × T)) (t : T) (h : Heap) : Res (Ex × T) :=
arb (.val (t 8) h) call fun v_30 h31 =>
arb (.of (aBin P .add 3 (.tmp 26) (.const (.int .i64 1)) v_30 (.int .i64 1)) h31) call fun v_32 h33 =>
arb (.val v_32 h33) call fun i_34 h35 =>
k .normal (upd (upd (upd t 26 v_30) 27 v_32) 8 i_34) h35

def J_precentorlaw19_BagTells_4 (P : Program) (call : FuncId → List AVal → Heap → Res AVal) (fuel : Nat) (k : Kn (Ex × T)) (t : T) (h : Heap) : Res (Ex × T) :=
arbE (.call F_bag_Bag_Len [(t 6)] h) call fun v_54 h55 => lt h55 fun g55 => ifb (true && true) <|
obv (.of (fadR 0 (t 7)) g55) fun v_56 =>
obv (.of (ld1 g55 v_56) g55) fun v_58 => ifb (isV v_58 (arVal (.of (ld1 h v_56) h)) && true) <|
obv (.of (lenL v_58) g55) fun v_60 =>
obv (.of (aBin P .neq 3 (.tmp 111) (.tmp 114) v_54 v_60) g55) fun v_62 =>
obv (.val v_62 g55) fun v_64 =>
gdr (wantB v_64 false) (fun c => arbE (.call F_bag_Bag_All [(t 6)] g55) call fun v_66 h67 => lt h67 fun g67 => ifb (true && true) <|
c true v_66 g67) g55 fun w68 v_66 h68 =>
gdr (wantB v_64 false) (fun c => obv (.of (fadR 0 (t 7)) h68) fun v_69 =>
c true v_69 h68) h68 fun w71 v_69 h71 =>
gdr (wantB v_64 false) (fun c => obv (.of (ld1 h71 v_69) h71) fun v_72 => ifb ((!w68 || isV v_72 (arVal (.of (ld1 g55 v_69) g55))) && true) <|
c true v_72 h71) h71 fun w74 v_72 h74 =>
gdr (wantB v_64 false) (fun c => arbE (.call F_precentorlaw19_same [v_66, v_72] h74) call fun v_75 h76 => lt h76 fun g76 => ifb (true && true) <|
c true v_75 g76) h74 fun w77 v_75 h77 =>
gdr (wantB v_64 false) (fun c => obv (.of (aUn P .not v_75) h77) fun v_78 =>
c true v_78 h77) h77 fun w80 v_78 h80 =>
obv (pkR v_64 (.bool true) v_78 h80) fun v_81 =>
cb v_81 (
arb (.val (.bool false) h80) call fun v_83 h84 =>
k .ret (upd (upd (upd (upd (upd (upd (upd (upd (upd (upd (upd (upd (upd t 111 v_54) 112 v_56) 113 v_58) 114 v_60) 115 v_62) 116 v_64) 117 v_66) 118 v_69) 119 v_72) 120 v_75) 121 v_78) 122 v_81) 4 v_83) h84) (
k .normal (upd (upd (upd (upd (upd (upd (upd (upd (upd (upd (upd (upd t 111 v_54) 112 v_56) 113 v_58) 114 v_60) 115 v_62) 116 v_64) 117 v_66) 118 v_69) 119 v_72) 120 v_75) 121 v_78) 122 v_81) h80)

def J_precentorlaw19_BagTells_6 (P : Program) (call : FuncId → List AVal → Heap → Res AVal) (fuel : Nat) (k : Kn (Ex × T)) (t : T) (h : Heap) : Res (Ex × T) :=
arb (.val (t 10) h) call fun v_93 h94 =>
arb (.call F_bag_Bag_Put [(t 6), v_93] h94) call fun v_95 h96 =>
arb (.val (t 10) h96) call fun v_97 h98 =>
arb (.call F_precentorref14_Bag_Put [(t 7), v_97] h98) call fun v_99 h100 =>
arb (.of (aBin P .neq 3 (.tmp 73) (.tmp 75) v_95 v_99) h100) call fun v_101 h102 =>
cb v_101 (
arb (.val (.bool false) h102) call fun v_103 h104 =>
k .ret (upd (upd (upd (upd (upd (upd t 72 v_93) 73 v_95) 74 v_97) 75 v_99) 76 v_101) 4 v_103) h104) (
k .normal (upd (upd (upd (upd (upd t 72 v_93) 73 v_95) 74 v_97) 75 v_99) 76 v_101) h102)

def J_precentorlaw19_BagTells_9 (P : Program) (call : FuncId → List AVal → Heap → Res AVal) (fuel : Nat) (k : Kn (Ex × T)) (t : T) (h : Heap) : Res (Ex × T) :=
arb (.val (t 11) h) call fun v_109 h110 =>
arb (.of (aBin P .add 3 (.tmp 53) (.const (.int .i64 1)) v_109 (.int .i64 1)) h110) call fun v_111 h112 =>
arb (.val v_111 h112) call fun j_113 h114 =>
k .normal (upd (upd (upd t 53 v_109) 54 v_111) 11 j_113) h114

def J_precentorlaw19_BagTells_8 (P : Program) (call : FuncId → List AVal → Heap → Res AVal) (fuel : Nat) (k : Kn (Ex × T)) (t : T) (h : Heap) : Res (Ex × T) :=
lt (sqK (J_precentorlaw19_BagTells_9 P call fuel k) k) fun k115 =>
lt (blkK 4 k115) fun k116 =>
arb (.val (t 1) h) call fun v_117 h118 =>
arb (.val (t 8) h118) call fun v_119 h120 =>
arb (.val (t 11) h120) call fun v_121 h122 =>
arb (.of (aBin P .add 3 (.tmp 56) (.tmp 57) v_119 v_121) h122) call fun v_123 h124 =>
arb (.val (t 1) h124) call fun v_125 h126 =>
arb (.of (lenL v_125) h126) call fun v_127 h128 =>
arb (.of (aBin P .rem 3 (.tmp 58) (.tmp 60) v_123 v_127) h128) call fun v_129 h130 =>
arb (.of (ixsR 3 v_117 v_129) h130) call fun v_131 h132 =>
arb (.of (ldn 3 h132 v_131) h132) call fun v_133 h134 =>
arb (newR [(.int .i64 0), (.int .i64 0), .nils] h134) call fun x_135 h136 =>
arb (stR 3 h136 x_135 v_133) call fun v_137 h138 =>
arb (.of (fadR 2 x_135) h138) call fun v_139 h140 =>
arb (.of (ld1 h140 v_139) h140) call fun v_141 h142 =>
arb (.call F_precentorhand_Few [v_141, (.int .i64 9)] h142) call fun v_143 h144 =>
arb (.of (fadR 2 x_135) h144) call fun v_145 h146 =>
arb (stR 1 h146 v_145 v_143) call fun v_147 h148 =>
arb (.val (t 10) h148) call fun v_149 h150 =>
arb (.of (ldn 3 h150 x_135) h150) call fun v_151 h152 =>
arb (bslR 3 [(.int .i64 0), (.int .i64 0), .nils] 1 h152 [(0, 3, v_151)]) call fun v_153 h154 =>
arb (appR 3 40 h154 v_149 v_153) call fun v_155 h156 =>
arb (.val v_155 h156) call fun some_157 h158 =>
k116 .normal (upd (upd (upd (upd (upd (upd (upd (upd (upd (upd (upd (upd (upd (upd (upd (upd (upd (upd (upd t 55 v_117) 56 v_119) 57 v_121) 58 v_123) 59 v_125) 60 v_127) 61 v_129) 62 v_131) 63 v_133) 12 x_135) 64 v_139) 65 v_141) 66 v_143) 67 v_145) 68 v_149) 69 v_151) 70 v_153) 71 v_155) 10 some_157) h158

def L_precentorlaw19_BagTells_7 (P : Program) (call : FuncId → List AVal → Heap → Res AVal) (fuel : Nat) (t : T) (h : Heap) : Res (Ex × T) :=
lt okK fun k =>
lt (sqK (J_precentorlaw19_BagTells_8 P call fuel k) k) fun k159 =>
arb (.val (t 11) h) call fun v_160 h161 =>
arb (.val (t 1) h161) call fun v_162 h163 =>
arb (.of (lenL v_162) h163) call fun v_164 h165 =>
arb (.of (aBin P .lss 3 (.tmp 45) (.tmp 47) v_160 v_164) h165) call fun v_166 h167 =>
arb (.val v_166 h167) call fun v_168 h169 =>
gd (wantB v_168 true) (fun c => arb (.val (t 11) h169) call c) h169 fun v_170 h171 =>
gd (wantB v_168 true) (fun c => arb (.of (aBin P .lss 3 (.tmp 50) (.const (.int .i64 3)) v_170 (.int .i64 3)) h171) call c) h171 fun v_172 h173 =>
arb (pkR v_168 v_172 (.bool false) h173) call fun v_174 h175 =>
cb v_174 (
k159 .normal (upd (upd (upd (upd (upd (upd (upd (upd t 45 v_160) 46 v_162) 47 v_164) 48 v_166) 49 v_168) 50 v_170) 51 v_172) 52 v_174) h175) (
k159 (.exit 3) (upd (upd (upd (upd (upd (upd (upd (upd t 45 v_160) 46 v_162) 47 v_164) 48 v_166) 49 v_168) 50 v_170) 51 v_172) 52 v_174) h175)

def J_precentorlaw19_BagTells_5 (P : Program) (call : FuncId → List AVal → Heap → Res AVal) (fuel : Nat) (k : Kn (Ex × T)) (t : T) (h : Heap) : Res (Ex × T) :=
cb (t 42) (
arb (.val .nils h) call fun some_91 h92 =>
lt (sqK (J_precentorlaw19_BagTells_6 P call fuel k) k) fun k105 =>
arb (.val (.int .i64 0) h92) call fun j_106 h107 =>
lt (blkK 3 k105) fun k108 =>
(loopN (L_precentorlaw19_BagTells_7 P call fuel) fuel (upd (upd t 10 some_91) 11 j_106) h107).bind (lpK k108)) (
arb (.of (aBin P .eql 3 (.tmp 36) (.const (.int .i64 2)) (t 36) (.int .i64 2)) h) call fun v_176 h177 =>
arb (.val v_176 h177) call fun v_178 h179 =>
cb v_178 (
arb (.val (t 9) h179) call fun v_180 h181 =>
arb (.call F_bag_Bag_Take [(t 6), v_180] h181) call fun v_182 h183 =>
arb (.val v_182 h183) call fun v_184 h185 =>
arb (extR v_184 0 h185) call fun v_186 h187 =>
arb (extR v_184 1 h187) call fun v_188 h189 =>
arb (newR [(.int .i64 0), (.int .i64 0), .nils] h189) call fun x_190 h191 =>
arb (stR 3 h191 x_190 v_186) call fun v_192 h193 =>
arb (.val v_188 h193) call fun p_194 h195 =>
arb (.val (t 9) h195) call fun v_196 h197 =>
arb (.call F_precentorref14_Bag_Take [(t 7), v_196] h197) call fun v_198 h199 =>
arb (.val v_198 h199) call fun v_200 h201 =>
arb (extR v_200 0 h201) call fun v_202 h203 =>
arb (extR v_200 1 h203) call fun v_204 h205 =>
arb (newR [(.int .i64 0), (.int .i64 0), .nils] h205) call fun y_206 h207 =>
arb (stR 3 h207 y_206 v_202) call fun v_208 h209 =>
arb (.val v_204 h209) call fun q_210 h211 =>
arb (.val p_194 h211) call fun v_212 h213 =>
arb (.val q_210 h213) call fun v_214 h215 =>
arb (.of (aBin P .neq 4 (.tmp 89) (.tmp 90) v_212 v_214) h215) call fun v_216 h217 =>
arb (.val v_216 h217) call fun v_218 h219 =>
gd (wantB v_218 false) (fun c => arb (.of (ldn 3 h219 x_190) h219) call c) h219 fun v_220 h221 =>
gd (wantB v_218 false) (fun c => arb (bslR 3 [(.int .i64 0), (.int .i64 0), .nils] 1 h221 [(0, 3, v_220)]) call c) h221 fun v_222 h223 =>
gd (wantB v_218 false) (fun c => arb (.of (ldn 3 h223 y_206) h223) call c) h223 fun v_224 h225 =>
gd (wantB v_218 false) (fun c => arb (bslR 3 [(.int .i64 0), (.int .i64 0), .nils] 1 h225 [(0, 3, v_224)]) call c) h225 fun v_226 h227 =>
gd (wantB v_218 false) (fun c => arb (.call F_precentorlaw19_same [v_222, v_226] h227) call c) h227 fun v_228 h229 =>
gd (wantB v_218 false) (fun c => arb (.of (aUn P .not v_228) h229) call c) h229 fun v_230 h231 =>
arb (pkR v_218 (.bool true) v_230 h231) call fun v_232 h233 =>
cb v_232 (
arb (.val (.bool false) h233) call fun v_234 h235 =>
k .ret (upd (upd (upd (upd (upd (upd (upd (upd (upd (upd (upd (upd (upd (upd (upd (upd (upd (upd (upd (upd (upd (upd (upd (upd (upd (upd (upd (upd t 78 v_176) 77 v_178) 80 v_180) 81 v_182) 79 v_184) 82 v_186) 83 v_188) 13 x_190) 14 p_194) 85 v_196) 86 v_198) 84 v_200) 87 v_202) 88 v_204) 15 y_206) 16 q_210) 89 v_212) 90 v_214) 91 v_216) 92 v_218) 93 v_220) 94 v_222) 95 v_224) 96 v_226) 97 v_228) 98 v_230) 99 v_232) 4 v_234) h235) (
k .normal (upd (upd (upd (upd (upd (upd (upd (upd (upd (upd (upd (upd (upd (upd (upd (upd (upd (upd (upd (upd (upd (upd (upd (upd (upd (upd (upd t 78 v_176) 77 v_178) 80 v_180) 81 v_182) 79 v_184) 82 v_186) 83 v_188) 13 x_190) 14 p_194) 85 v_196) 86 v_198) 84 v_200) 87 v_202) 88 v_204) 15 y_206) 16 q_210) 89 v_212) 90 v_214) 91 v_216) 92 v_218) 93 v_220) 94 v_222) 95 v_224) 96 v_226) 97 v_228) 98 v_230) 99 v_232) h233)) (
arb (.of (aBin P .eql 3 (.tmp 36) (.const (.int .i64 3)) (t 36) (.int .i64 3)) h179) call fun v_236 h237 =>
arb (.val v_236 h237) call fun v_238 h239 =>
cb v_238 (
arb (.val (t 9) h239) call fun v_240 h241 =>
arb (.call F_precentorref14_Bag_Take [(t 7), v_240] h241) call fun v_242 h243 =>
arb (.val v_242 h243) call fun v_244 h245 =>
arb (extR v_244 0 h245) call fun v_246 h247 =>
arb (extR v_244 1 h247) call fun v_248 h249 =>
arb (newR [(.int .i64 0), (.int .i64 0), .nils] h249) call fun v_250 h251 =>
arb (stR 3 h251 v_250 v_246) call fun v_252 h253 =>
arb (.val v_248 h253) call fun q_254 h255 =>
arb (.val (t 9) h255) call fun v_256 h257 =>
arb (.call F_bag_Bag_Drop [(t 6), v_256] h257) call fun v_258 h259 =>
arb (.val q_254 h259) call fun v_260 h261 =>
arb (.of (aBin P .neq 4 (.tmp 108) (.tmp 109) v_258 v_260) h261) call fun v_262 h263 =>
cb v_262 (
arb (.val (.bool false) h263) call fun v_264 h265 =>
k .ret (upd (upd (upd (upd (upd (upd (upd (upd (upd (upd (upd (upd (upd (upd (upd (upd t 78 v_176) 77 v_178) 101 v_236) 100 v_238) 103 v_240) 104 v_242) 102 v_244) 105 v_246) 106 v_248) 17 v_250) 18 q_254) 107 v_256) 108 v_258) 109 v_260) 110 v_262) 4 v_264) h265) (
k .normal (upd (upd (upd (upd (upd (upd (upd (upd (upd (upd (upd (upd (upd (upd (upd t 78 v_176) 77 v_178) 101 v_236) 100 v_238) 103 v_240) 104 v_242) 102 v_244) 105 v_246) 106 v_248) 17 v_250) 18 q_254) 107 v_256) 108 v_258) 109 v_260) 110 v_262) h263)) (
arb (.val (t 9) h239) call fun v_266 h267 =>
arb (.call F_bag_Bag_Twice [(t 6), v_266] h267) call fun v_268 h269 =>
arb (.val (t 9) h269) call fun v_270 h271 =>
arb (.call F_precentorref14_Bag_Twice [(t 7), v_270] h271) call fun v_272 h273 =>
arb (.of (aBin P .neq 4 (.tmp 38) (.tmp 40) v_268 v_272) h273) call fun v_274 h275 =>
cb v_274 (
arb (.val (.bool false) h275) call fun v_276 h277 =>
k .ret (upd (upd (upd (upd (upd (upd (upd (upd (upd (upd t 78 v_176) 77 v_178) 101 v_236) 100 v_238) 37 v_266) 38 v_268) 39 v_270) 40 v_272) 41 v_274) 4 v_276) h277) (
k .normal (upd (upd (upd (upd (upd (upd (upd (upd (upd t 78 v_176) 77 v_178) 101 v_236) 100 v_238) 37 v_266) 38 v_268) 39 v_270) 40 v_272) 41 v_274) h275))))

def J_precentorlaw19_BagTells_2 (P : Program) (call : FuncId → List AVal → Heap → Res AVal) (fuel : Nat) (k : Kn (Ex × T)) (t : T) (h : Heap) : Res (Ex × T) :=
lt (sqK (J_precentorlaw19_BagTells_3 P call fuel k) k) fun k36 =>
lt (blkK 1 k36) fun k37 =>
arb (.val (t 5) h) call fun v_38 h39 =>
arb (.of (fadR 0 (t 7)) h39) call fun v_40 h41 =>
arb (.of (ld1 h41 v_40) h41) call fun v_42 h43 =>
arb (.of (lenL v_42) h43) call fun v_44 h45 =>
arb (.of (aBin P .add 3 (.tmp 31) (.const (.int .i64 3)) v_44 (.int .i64 3)) h45) call fun v_46 h47 =>
arb (.call F_precentorhand_Feed_Next [v_38, v_46] h47) call fun v_48 h49 =>
arb (.of (aBin P .sub 3 (.tmp 33) (.const (.int .i64 1)) v_48 (.int .i64 1)) h49) call fun v_50 h51 =>
arb (.val v_50 h51) call fun k_52 h53 =>
lt (sqK (J_precentorlaw19_BagTells_4 P call fuel k37) k37) fun k85 =>
arb (.val (t 5) h53) call fun v_86 h87 =>
arb (.call F_precentorhand_Feed_Next [v_86, (.int .i64 6)] h87) call fun v_88 h89 =>
lt (blkK 2 k85) fun k90 =>
lt (sqK (J_precentorlaw19_BagTells_5 P call fuel k90) k90) fun k278 =>
arb (.of (aBin P .eql 3 (.tmp 36) (.const (.int .i64 0)) v_88 (.int .i64 0)) h89) call fun v_279 h280 =>
arb (.val v_279 h280) call fun v_281 h282 =>
cb v_281 (
k278 .normal (upd (upd (upd (upd (upd (upd (upd (upd (upd (upd (upd (upd t 28 v_38) 29 v_40) 30 v_42) 31 v_44) 32 v_46) 33 v_48) 34 v_50) 9 k_52) 35 v_86) 36 v_88) 43 v_279) 42 v_281) h282) (
arb (.of (aBin P .eql 3 (.tmp 36) (.const (.int .i64 1)) v_88 (.int .i64 1)) h282) call fun v_283 h284 =>
arb (.val v_283 h284) call fun v_285 h286 =>
k278 .normal (upd (upd (upd (upd (upd (upd (upd (upd (upd (upd (upd (upd (upd (upd t 28 v_38) 29 v_40) 30 v_42) 31 v_44) 32 v_46) 33 v_48) 34 v_50) 9 k_52) 35 v_86) 36 v_88) 43 v_279) 42 v_281) 44 v_283) 42 v_285) h286)

def L_precentorlaw19_BagTells_1 (P : Program) (call : FuncId → List AVal → Heap → Res AVal) (fuel : Nat) (t : T) (h : Heap) : Res (Ex × T) :=
lt okK fun k =>
lt (sqK (J_precentorlaw19_BagTells_2 P call fuel k) k) fun k287 =>
arb (.val (t 8) h) call fun v_288 h289 =>
arb (.of (aBin P .lss 3 (.tmp 24) (.const (.int .i64 30)) v_288 (.int .i64 30)) h289) call fun v_290 h291 =>
cb v_290 (
k287 .normal (upd (upd t 24 v_288) 25 v_290) h291) (
k287 (.exit 0) (upd (upd t 24 v_288) 25 v_290) h291)

def S_precentorlaw19_BagTells (P : Program) (call : FuncId → List AVal → Heap → Res AVal) (fuel : Nat) (l_a0 d_a1 : AVal) (h : Heap) : Res AVal :=
lt (retK P [.tmp 4]) fun k =>
arb (.val (.bool false) h) call fun v_0 h1 =>
arb (.val l_a0 h1) call fun v_2 h3 =>
arb (.of (bldR [.nils, (.int .i64 0)] [(0, 1, v_2)]) h3) call fun v_4 h5 =>
arb (boxR v_4 h5) call fun v_6 h7 =>
arb (.val v_6 h7) call fun f_8 h9 =>
arb (.of (bldR [.nils] []) h9) call fun v_10 h11 =>
arb (newR [.nils] h11) call fun b_12 h13 =>
arb (stR 1 h13 b_12 v_10) call fun v_14 h15 =>
arb (.of (bldR [.nils] []) h15) call fun v_16 h17 =>
arb (newR [.nils] h17) call fun r_18 h19 =>
arb (stR 1 h19 r_18 v_16) call fun v_20 h21 =>
lt (sqK (J_precentorlaw19_BagTells_0 P call fuel k) k) fun k26 =>
arb (.val (.int .i64 0) h21) call fun i_27 h28 =>
lt (blkK 0 k26) fun k29 =>
(loopN (L_precentorlaw19_BagTells_1 P call fuel) fuel (upd (upd (upd (upd (upd (upd (upd (upd (upd (upd (enterT [l_a0, d_a1]) 4 v_0) 19 v_2) 20 v_4) 21 v_6) 5 f_8) 22 v_10) 6 b_12) 23 v_16) 7 r_18) 8 i_27) h28).bind (lpK k29)
theorem E_precentorlaw19_BagTells (call : FuncId → List AVal → Heap → Res AVal) (fuel : Nat) (l_a0 d_a1 : AVal) (h : Heap) : bodyR Try.prog call fuel Try.f4 [l_a0, d_a1] h = S_precentorlaw19_BagTells Try.prog call fuel l_a0 d_a1 h := by kernel_rfl
theorem R_precentorlaw19_BagTells {X : XTab} (l_a0 d_a1 : AVal) {h : Heap} {Q : AVal → Heap → Prop} (hx : X F_precentorlaw19_BagTells [l_a0, d_a1] = none) (q : Tells (fun m => S_precentorlaw19_BagTells Try.prog (acallX Try.prog X m) m l_a0 d_a1 h) Q) :
    Tells (fun m => acallX Try.prog X m F_precentorlaw19_BagTells [l_a0, d_a1] h) Q :=
  Tells.later (q.le fun m => (E_precentorlaw19_BagTells (acallX Try.prog X m) m l_a0 d_a1 h) ▸ acallX_le Try.func4 hx m h)

/-! ### precentor/precentorlaw19.BagOwn -/
def J_precentorlaw19_BagOwn_2 (P : Program) (call : FuncId → List AVal → Heap → Res AVal) (fuel : Nat) (k : Kn (AVal)) (t : T) (h : Heap) : Res (AVal) :=
arb (.of (fadR 2 (t 9)) h) call fun v_72 h73 =>
arb (.of (ld1 h73 v_72) h73) call fun v_74 h75 =>
arb (.val (t 1) h75) call fun v_76 h77 =>
arb (.of (aBin P .add 5 (.tmp 95) (.const (.int .u8 3)) v_76 (.int .u8 3)) h77) call fun v_78 h79 =>
arb (.of (ixsR 1 v_74 (.int .i64 1)) h79) call fun v_80 h81 =>
arb (stR 1 h81 v_80 v_78) call fun v_82 h83 =>
arb (.call F_bag_Bag_Take [(t 5), (.int .i64 0)] h83) call fun v_84 h85 =>
arb (.val v_84 h85) call fun v_86 h87 =>
arb (extR v_86 0 h87) call fun v_88 h89 =>
arb (extR v_86 1 h89) call fun v_90 h91 =>
arb (newR [(.int .i64 0), (.int .i64 0), .nils] h91) call fun y_92 h93 =>
arb (stR 3 h93 y_92 v_88) call fun v_94 h95 =>
arb (.val v_90 h95) call fun q_96 h97 =>
arb (.val q_96 h97) call fun v_98 h99 =>
arb (.val v_98 h99) call fun v_100 h101 =>
gd (wantB v_100 true) (fun c => arb (.of (fadR 2 y_92) h101) call c) h101 fun v_102 h103 =>
gd (wantB v_100 true) (fun c => arb (.of (ld1 h103 v_102) h103) call c) h103 fun v_104 h105 =>
gd (wantB v_100 true) (fun c => arb (.of (lenL v_104) h105) call c) h105 fun v_106 h107 =>
gd (wantB v_100 true) (fun c => arb (.of (aBin P .eql 3 (.tmp 106) (.const (.int .i64 2)) v_106 (.int .i64 2)) h107) call c) h107 fun v_108 h109 =>
arb (pkR v_100 v_108 (.bool false) h109) call fun v_110 h111 =>
arb (.val v_110 h111) call fun v_112 h113 =>
gd (wantB v_112 true) (fun c => arb (.of (fadR 2 y_92) h113) call c) h113 fun v_114 h115 =>
gd (wantB v_112 true) (fun c => arb (.of (ld1 h115 v_114) h115) call c) h115 fun v_116 h117 =>
gd (wantB v_112 true) (fun c => arb (.of (ixsR 1 v_116 (.int .i64 1)) h117) call c) h117 fun v_118 h119 =>
gd (wantB v_112 true) (fun c => arb (.of (ld1 h119 v_118) h119) call c) h119 fun v_120 h121 =>
gd (wantB v_112 true) (fun c => arb (.val (t 1) h121) call c) h121 fun v_122 h123 =>
gd (wantB v_112 true) (fun c => arb (.of (aBin P .eql 5 (.tmp 113) (.tmp 114) v_120 v_122) h123) call c) h123 fun v_124 h125 =>
arb (pkR v_112 v_124 (.bool false) h125) call fun v_126 h127 =>
arb (.val v_126 h127) call fun v_128 h129 =>
gd (wantB v_128 true) (fun c => arb (.of (fadR 0 y_92) h129) call c) h129 fun v_130 h131 =>
gd (wantB v_128 true) (fun c => arb (.of (ld1 h131 v_130) h131) call c) h131 fun v_132 h133 =>
gd (wantB v_128 true) (fun c => arb (.val (t 0) h133) call c) h133 fun v_134 h135 =>
gd (wantB v_128 true) (fun c => arb (.of (aBin P .eql 3 (.tmp 119) (.tmp 120) v_132 v_134) h135) call c) h135 fun v_136 h137 =>
arb (pkR v_128 v_136 (.bool false) h137) call fun v_138 h139 =>
arb (.val v_138 h139) call fun v_140 h141 =>
gd (wantB v_140 true) (fun c => arb (.call F_bag_Bag_Len [(t 5)] h141) call c) h141 fun v_142 h143 =>
gd (wantB v_140 true) (fun c => arb (.of (aBin P .eql 3 (.tmp 124) (.const (.int .i64 0)) v_142 (.int .i64 0)) h143) call c) h143 fun v_144 h145 =>
arb (pkR v_140 v_144 (.bool false) h145) call fun v_146 h147 =>
arb (.val v_146 h147) call fun v_148 h149 =>
gd (wantB v_148 true) (fun c => arb (.call F_bag_Bag_Len [(t 6)] h149) call c) h149 fun v_150 h151 =>
gd (wantB v_148 true) (fun c => arb (.of (aBin P .eql 3 (.tmp 128) (.const (.int .i64 0)) v_150 (.int .i64 0)) h151) call c) h151 fun v_152 h153 =>
arb (pkR v_148 v_152 (.bool false) h153) call fun v_154 h155 =>
arb (.val v_154 h155) call fun v_156 h157 =>
k .ret (upd (upd (upd (upd (upd (upd (upd (upd (upd (upd (upd (upd (upd (upd (upd (upd (upd (upd (upd (upd (upd (upd (upd (upd (upd (upd (upd (upd (upd (upd (upd (upd (upd (upd (upd (upd (upd (upd (upd (upd (upd t 93 v_72) 94 v_74) 95 v_76) 96 v_78) 97 v_80) 99 v_84) 98 v_86) 100 v_88) 101 v_90) 11 y_92) 12 q_96) 102 v_98) 103 v_100) 104 v_102) 105 v_104) 106 v_106) 107 v_108) 108 v_110) 109 v_112) 110 v_114) 111 v_116) 112 v_118) 113 v_120) 114 v_122) 115 v_124) 116 v_126) 117 v_128) 118 v_130) 119 v_132) 120 v_134) 121 v_136) 122 v_138) 123 v_140) 124 v_142) 125 v_144) 126 v_146) 127 v_148) 128 v_150) 129 v_152) 130 v_154) 4 v_156) h157

def J_precentorlaw19_BagOwn_1 (P : Program) (call : FuncId → List AVal → Heap → Res AVal) (fuel : Nat) (k : Kn (AVal)) (t : T) (h : Heap) : Res (AVal) :=
arb (.val (t 8) h) call fun v_42 h43 =>
arb (.of (ixsR 3 v_42 (.int .i64 0)) h43) call fun v_44 h45 =>
arb (.of (fadR 2 v_44) h45) call fun v_46 h47 =>
arb (.of (ld1 h47 v_46) h47) call fun v_48 h49 =>
arb (.val (t 1) h49) call fun v_50 h51 =>
arb (.of (aBin P .add 5 (.tmp 70) (.const (.int .u8 2)) v_50 (.int .u8 2)) h51) call fun v_52 h53 =>
arb (.of (ixsR 1 v_48 (.int .i64 1)) h53) call fun v_54 h55 =>
arb (stR 1 h55 v_54 v_52) call fun v_56 h57 =>
arb (.call F_bag_Bag_Take [(t 5), (.int .i64 0)] h57) call fun v_58 h59 =>
arb (.val v_58 h59) call fun v_60 h61 =>
arb (extR v_60 0 h61) call fun v_62 h63 =>
arb (extR v_60 1 h63) call fun v_64 h65 =>
arb (newR [(.int .i64 0), (.int .i64 0), .nils] h65) call fun x_66 h67 =>
arb (stR 3 h67 x_66 v_62) call fun v_68 h69 =>
arb (.val v_64 h69) call fun p_70 h71 =>
lt (sqK (J_precentorlaw19_BagOwn_2 P call fuel k) k) fun k158 =>
arb (.val p_70 h71) call fun v_159 h160 =>
arb (.of (aUn P .not v_159) h160) call fun v_161 h162 =>
arb (.val v_161 h162) call fun v_163 h164 =>
gd (wantB v_163 false) (fun c => arb (.of (fadR 2 x_66) h164) call c) h164 fun v_165 h166 =>
gd (wantB v_163 false) (fun c => arb (.of (ld1 h166 v_165) h166) call c) h166 fun v_167 h168 =>
gd (wantB v_163 false) (fun c => arb (.of (lenL v_167) h168) call c) h168 fun v_169 h170 =>
gd (wantB v_163 false) (fun c => arb (.of (aBin P .neq 3 (.tmp 82) (.const (.int .i64 2)) v_169 (.int .i64 2)) h170) call c) h170 fun v_171 h172 =>
arb (pkR v_163 (.bool true) v_171 h172) call fun v_173 h174 =>
arb (.val v_173 h174) call fun v_175 h176 =>
gd (wantB v_175 false) (fun c => arb (.of (fadR 2 x_66) h176) call c) h176 fun v_177 h178 =>
gd (wantB v_175 false) (fun c => arb (.of (ld1 h178 v_177) h178) call c) h178 fun v_179 h180 =>
gd (wantB v_175 false) (fun c => arb (.of (ixsR 1 v_179 (.int .i64 1)) h180) call c) h180 fun v_181 h182 =>
gd (wantB v_175 false) (fun c => arb (.of (ld1 h182 v_181) h182) call c) h182 fun v_183 h184 =>
gd (wantB v_175 false) (fun c => arb (.val (t 1) h184) call c) h184 fun v_185 h186 =>
gd (wantB v_175 false) (fun c => arb (.of (aBin P .neq 5 (.tmp 89) (.tmp 90) v_183 v_185) h186) call c) h186 fun v_187 h188 =>
arb (pkR v_175 (.bool true) v_187 h188) call fun v_189 h190 =>
cb v_189 (
arb (.val (.bool false) h190) call fun v_191 h192 =>
k158 .ret (upd (upd (upd (upd (upd (upd (upd (upd (upd (upd (upd (upd (upd (upd (upd (upd (upd (upd (upd (upd (upd (upd (upd (upd (upd (upd (upd (upd (upd (upd t 66 v_42) 67 v_44) 68 v_46) 69 v_48) 70 v_50) 71 v_52) 72 v_54) 74 v_58) 73 v_60) 75 v_62) 76 v_64) 9 x_66) 10 p_70) 77 v_159) 78 v_161) 79 v_163) 80 v_165) 81 v_167) 82 v_169) 83 v_171) 84 v_173) 85 v_175) 86 v_177) 87 v_179) 88 v_181) 89 v_183) 90 v_185) 91 v_187) 92 v_189) 4 v_191) h192) (
k158 .normal (upd (upd (upd (upd (upd (upd (upd (upd (upd (upd (upd (upd (upd (upd (upd (upd (upd (upd (upd (upd (upd (upd (upd (upd (upd (upd (upd (upd (upd t 66 v_42) 67 v_44) 68 v_46) 69 v_48) 70 v_50) 71 v_52) 72 v_54) 74 v_58) 73 v_60) 75 v_62) 76 v_64) 9 x_66) 10 p_70) 77 v_159) 78 v_161) 79 v_163) 80 v_165) 81 v_167) 82 v_169) 83 v_171) 84 v_173) 85 v_175) 86 v_177) 87 v_179) 88 v_181) 89 v_183) 90 v_185) 91 v_187) 92 v_189) h190)

def J_precentorlaw19_BagOwn_0 (P : Program) (call : FuncId → List AVal → Heap → Res AVal) (fuel : Nat) (k : Kn (AVal)) (t : T) (h : Heap) : Res (AVal) :=
arb (.of (fadR 2 (t 7)) h) call fun v_26 h27 =>
arb (.of (ld1 h27 v_26) h27) call fun v_28 h29 =>
arb (.val (t 1) h29) call fun v_30 h31 =>
arb (.of (aBin P .add 5 (.tmp 33) (.const (.int .u8 1)) v_30 (.int .u8 1)) h31) call fun v_32 h33 =>
arb (.of (ixsR 1 v_28 (.int .i64 1)) h33) call fun v_34 h35 =>
arb (stR 1 h35 v_34 v_32) call fun v_36 h37 =>
arb (.call F_bag_Bag_All [(t 5)] h37) call fun v_38 h39 =>
arb (.val v_38 h39) call fun l_40 h41 =>
lt (sqK (J_precentorlaw19_BagOwn_1 P call fuel k) k) fun k193 =>
arb (.val l_40 h41) call fun v_194 h195 =>
arb (.of (lenL v_194) h195) call fun v_196 h197 =>
arb (.of (aBin P .neq 3 (.tmp 38) (.const (.int .i64 2)) v_196 (.int .i64 2)) h197) call fun v_198 h199 =>
arb (.val v_198 h199) call fun v_200 h201 =>
gd (wantB v_200 false) (fun c => arb (.val l_40 h201) call c) h201 fun v_202 h203 =>
gd (wantB v_200 false) (fun c => arb (.of (ixsR 3 v_202 (.int .i64 0)) h203) call c) h203 fun v_204 h205 =>
gd (wantB v_200 false) (fun c => arb (.of (fadR 2 v_204) h205) call c) h205 fun v_206 h207 =>
gd (wantB v_200 false) (fun c => arb (.of (ld1 h207 v_206) h207) call c) h207 fun v_208 h209 =>
gd (wantB v_200 false) (fun c => arb (.of (lenL v_208) h209) call c) h209 fun v_210 h211 =>
gd (wantB v_200 false) (fun c => arb (.of (aBin P .neq 3 (.tmp 45) (.const (.int .i64 2)) v_210 (.int .i64 2)) h211) call c) h211 fun v_212 h213 =>
arb (pkR v_200 (.bool true) v_212 h213) call fun v_214 h215 =>
arb (.val v_214 h215) call fun v_216 h217 =>
gd (wantB v_216 false) (fun c => arb (.val l_40 h217) call c) h217 fun v_218 h219 =>
gd (wantB v_216 false) (fun c => arb (.of (ixsR 3 v_218 (.int .i64 1)) h219) call c) h219 fun v_220 h221 =>
gd (wantB v_216 false) (fun c => arb (.of (fadR 2 v_220) h221) call c) h221 fun v_222 h223 =>
gd (wantB v_216 false) (fun c => arb (.of (ld1 h223 v_222) h223) call c) h223 fun v_224 h225 =>
gd (wantB v_216 false) (fun c => arb (.of (lenL v_224) h225) call c) h225 fun v_226 h227 =>
gd (wantB v_216 false) (fun c => arb (.of (aBin P .neq 3 (.tmp 53) (.const (.int .i64 2)) v_226 (.int .i64 2)) h227) call c) h227 fun v_228 h229 =>
arb (pkR v_216 (.bool true) v_228 h229) call fun v_230 h231 =>
arb (.val v_230 h231) call fun v_232 h233 =>
gd (wantB v_232 false) (fun c => arb (.val l_40 h233) call c) h233 fun v_234 h235 =>
gd (wantB v_232 false) (fun c => arb (.of (ixsR 3 v_234 (.int .i64 0)) h235) call c) h235 fun v_236 h237 =>
gd (wantB v_232 false) (fun c => arb (.of (fadR 2 v_236) h237) call c) h237 fun v_238 h239 =>
gd (wantB v_232 false) (fun c => arb (.of (ld1 h239 v_238) h239) call c) h239 fun v_240 h241 =>
gd (wantB v_232 false) (fun c => arb (.of (ixsR 1 v_240 (.int .i64 1)) h241) call c) h241 fun v_242 h243 =>
gd (wantB v_232 false) (fun c => arb (.of (ld1 h243 v_242) h243) call c) h243 fun v_244 h245 =>
gd (wantB v_232 false) (fun c => arb (.val (t 1) h245) call c) h245 fun v_246 h247 =>
gd (wantB v_232 false) (fun c => arb (.of (aBin P .neq 5 (.tmp 62) (.tmp 63) v_244 v_246) h247) call c) h247 fun v_248 h249 =>
arb (pkR v_232 (.bool true) v_248 h249) call fun v_250 h251 =>
cb v_250 (
arb (.val (.bool false) h251) call fun v_252 h253 =>
k193 .ret (upd (upd (upd (upd (upd (upd (upd (upd (upd (upd (upd (upd (upd (upd (upd (upd (upd (upd (upd (upd (upd (upd (upd (upd (upd (upd (upd (upd (upd (upd (upd (upd (upd (upd (upd (upd (upd t 31 v_26) 32 v_28) 33 v_30) 34 v_32) 35 v_34) 36 v_38) 8 l_40) 37 v_194) 38 v_196) 39 v_198) 40 v_200) 41 v_202) 42 v_204) 43 v_206) 44 v_208) 45 v_210) 46 v_212) 47 v_214) 48 v_216) 49 v_218) 50 v_220) 51 v_222) 52 v_224) 53 v_226) 54 v_228) 55 v_230) 56 v_232) 57 v_234) 58 v_236) 59 v_238) 60 v_240) 61 v_242) 62 v_244) 63 v_246) 64 v_248) 65 v_250) 4 v_252) h253) (
k193 .normal (upd (upd (upd (upd (upd (upd (upd (upd (upd (upd (upd (upd (upd (upd (upd (upd (upd (upd (upd (upd (upd (upd (upd (upd (upd (upd (upd (upd (upd (upd (upd (upd (upd (upd (upd (upd t 31 v_26) 32 v_28) 33 v_30) 34 v_32) 35 v_34) 36 v_38) 8 l_40) 37 v_194) 38 v_196) 39 v_198) 40 v_200) 41 v_202) 42 v_204) 43 v_206) 44 v_208) 45 v_210) 46 v_212) 47 v_214) 48 v_216) 49 v_218) 50 v_220) 51 v_222) 52 v_224) 53 v_226) 54 v_228) 55 v_230) 56 v_232) 57 v_234) 58 v_236) 59 v_238) 60 v_240) 61 v_242) 62 v_244) 63 v_246) 64 v_248) 65 v_250) h251)

def S_precentorlaw19_BagOwn (P : Program) (call : FuncId → List AVal → Heap → Res AVal) (fuel : Nat) (n_a0 by_a1 : AVal) (h : Heap) : Res AVal :=
lt (retK P [.tmp 4]) fun k =>
arb (.val (.bool false) h) call fun v_0 h1 =>
arb (.of (bldR [.nils] []) h1) call fun v_2 h3 =>
arb (newR [.nils] h3) call fun b_4 h5 =>
arb (stR 1 h5 b_4 v_2) call fun v_6 h7 =>
arb (.of (bldR [.nils] []) h7) call fun v_8 h9 =>
arb (newR [.nils] h9) call fun c_10 h11 =>
arb (stR 1 h11 c_10 v_8) call fun v_12 h13 =>
arb (.val n_a0 h13) call fun v_14 h15 =>
arb (.val by_a1 h15) call fun v_16 h17 =>
arb (bslR 1 [(.int .u8 0), (.int .u8 0)] 2 h17 [(0, 1, (.int .u8 1)), (1, 1, v_16)]) call fun v_18 h19 =>
arb (.of (bldR [(.int .i64 0), (.int .i64 0), .nils] [(0, 1, v_14), (2, 1, v_18)]) h19) call fun v_20 h21 =>
arb (newR [(.int .i64 0), (.int .i64 0), .nils] h21) call fun d_22 h23 =>
arb (stR 3 h23 d_22 v_20) call fun v_24 h25 =>
lt (sqK (J_precentorlaw19_BagOwn_0 P call fuel k) k) fun k254 =>
arb (.call F_precentorlaw19_known [] h25) call fun v_255 h256 =>
arb (.of (aUn P .not v_255) h256) call fun v_257 h258 =>
arb (.val v_257 h258) call fun v_259 h260 =>
gd (wantB v_259 false) (fun c => arb (.of (ldn 3 h260 d_22) h260) call c) h260 fun v_261 h262 =>
gd (wantB v_259 false) (fun c => arb (bslR 3 [(.int .i64 0), (.int .i64 0), .nils] 1 h262 [(0, 3, v_261)]) call c) h262 fun v_263 h264 =>
gd (wantB v_259 false) (fun c => arb (.call F_bag_Bag_Put [b_4, v_263] h264) call c) h264 fun v_265 h266 =>
gd (wantB v_259 false) (fun c => arb (.of (aBin P .neq 3 (.tmp 24) (.const (.int .i64 1)) v_265 (.int .i64 1)) h266) call c) h266 fun v_267 h268 =>
arb (pkR v_259 (.bool true) v_267 h268) call fun v_269 h270 =>
arb (.val v_269 h270) call fun v_271 h272 =>
gd (wantB v_271 false) (fun c => arb (.call F_bag_Bag_Twice [b_4, (.int .i64 0)] h272) call c) h272 fun v_273 h274 =>
gd (wantB v_271 false) (fun c => arb (.of (aUn P .not v_273) h274) call c) h274 fun v_275 h276 =>
arb (pkR v_271 (.bool true) v_275 h276) call fun v_277 h278 =>
cb v_277 (
arb (.val (.bool false) h278) call fun v_279 h280 =>
k254 .ret (upd (upd (upd (upd (upd (upd (upd (upd (upd (upd (upd (upd (upd (upd (upd (upd (upd (upd (upd (upd (upd (upd (upd (enterT [n_a0, by_a1]) 4 v_0) 13 v_2) 5 b_4) 14 v_8) 6 c_10) 15 v_14) 16 v_16) 17 v_18) 18 v_20) 7 d_22) 19 v_255) 20 v_257) 21 v_259) 22 v_261) 23 v_263) 24 v_265) 25 v_267) 26 v_269) 27 v_271) 28 v_273) 29 v_275) 30 v_277) 4 v_279) h280) (
k254 .normal (upd (upd (upd (upd (upd (upd (upd (upd (upd (upd (upd (upd (upd (upd (upd (upd (upd (upd (upd (upd (upd (upd (enterT [n_a0, by_a1]) 4 v_0) 13 v_2) 5 b_4) 14 v_8) 6 c_10) 15 v_14) 16 v_16) 17 v_18) 18 v_20) 7 d_22) 19 v_255) 20 v_257) 21 v_259) 22 v_261) 23 v_263) 24 v_265) 25 v_267) 26 v_269) 27 v_271) 28 v_273) 29 v_275) 30 v_277) h278)
theorem E_precentorlaw19_BagOwn (call : FuncId → List AVal → Heap → Res AVal) (fuel : Nat) (n_a0 by_a1 : AVal) (h : Heap) : bodyR Try.prog call fuel Try.f5 [n_a0, by_a1] h = S_precentorlaw19_BagOwn Try.prog call fuel n_a0 by_a1 h := by kernel_rfl
theorem R_precentorlaw19_BagOwn {X : XTab} (n_a0 by_a1 : AVal) {h : Heap} {Q : AVal → Heap → Prop} (hx : X F_precentorlaw19_BagOwn [n_a0, by_a1] = none) (q : Tells (fun m => S_precentorlaw19_BagOwn Try.prog (acallX Try.prog X m) m n_a0 by_a1 h) Q) :
    Tells (fun m => acallX Try.prog X m F_precentorlaw19_BagOwn [n_a0, by_a1] h) Q :=
  Tells.later (q.le fun m => (E_precentorlaw19_BagOwn (acallX Try.prog X m) m n_a0 by_a1 h) ▸ acallX_le Try.func5 hx m h)

/-! ### precentor/precentorlaw19.BagOrder -/
def J_precentorlaw19_BagOrder_0 (P : Program) (call : FuncId → List AVal → Heap → Res AVal) (fuel : Nat) (k : Kn (AVal)) (t : T) (h : Heap) : Res (AVal) :=
arb (.call F_precentorlaw19_known [] h) call fun v_18 h19 =>
arb (.val v_18 h19) call fun v_20 h21 =>
k .ret (upd (upd t 89 v_18) 2 v_20) h21

def J_precentorlaw19_BagOrder_3 (P : Program) (call : FuncId → List AVal → Heap → Res AVal) (fuel : Nat) (k : Kn (Ex × T)) (t : T) (h : Heap) : Res (Ex × T) :=
arb (.val (t 6) h) call fun v_26 h27 =>
arb (.of (aBin P .add 3 (.tmp 16) (.const (.int .i64 1)) v_26 (.int .i64 1)) h27) call fun v_28 h29 =>
arb (.val v_28 h29) call fun i_30 h31 =>
k .normal (upd (upd (upd t 16 v_26) 17 v_28) 6 i_30) h31

def J_precentorlaw19_BagOrder_4 (P : Program) (call : FuncId → List AVal → Heap → Res AVal) (fuel : Nat) (k : Kn (Ex × T)) (t : T) (h : Heap) : Res (Ex × T) :=
arb (.call F_bag_Bag_Len [(t 4)] h) call fun v_34 h35 =>
arb (.val (t 5) h35) call fun v_36 h37 =>
arb (.of (lenL v_36) h37) call fun v_38 h39 =>
arb (.of (aBin P .neq 3 (.tmp 85) (.tmp 87) v_34 v_38) h39) call fun v_40 h41 =>
cb v_40 (
arb (.val (.bool false) h41) call fun v_42 h43 =>
k .ret (upd (upd (upd (upd (upd t 85 v_34) 86 v_36) 87 v_38) 88 v_40) 2 v_42) h43) (
k .normal (upd (upd (upd (upd t 85 v_34) 86 v_36) 87 v_38) 88 v_40) h41)

def J_precentorlaw19_BagOrder_6 (P : Program) (call : FuncId → List AVal → Heap → Res AVal) (fuel : Nat) (k : Kn (Ex × T)) (t : T) (h : Heap) : Res (Ex × T) :=
arb (.val (t 5) h) call fun v_50 h51 =>
arb (.val (t 6) h51) call fun v_52 h53 =>
arb (.val (t 6) h53) call fun v_54 h55 =>
arb (.of (aBin P .add 3 (.tmp 56) (.const (.int .i64 100)) v_54 (.int .i64 100)) h55) call fun v_56 h57 =>
arb (bslR 1 [(.int .i64 0), (.int .i64 0)] 2 h57 [(0, 1, v_52), (1, 1, v_56)]) call fun v_58 h59 =>
arb (appR 1 8 h59 v_50 v_58) call fun v_60 h61 =>
arb (.val v_60 h61) call fun want_62 h63 =>
k .normal (upd (upd (upd (upd (upd (upd (upd t 54 v_50) 55 v_52) 56 v_54) 57 v_56) 58 v_58) 59 v_60) 5 want_62) h63

def J_precentorlaw19_BagOrder_7 (P : Program) (call : FuncId → List AVal → Heap → Res AVal) (fuel : Nat) (k : Kn (Ex × T)) (t : T) (h : Heap) : Res (Ex × T) :=
arb (.val (t 7) h) call fun v_99 h100 =>
arb (.val (t 5) h100) call fun v_101 h102 =>
arb (.of (lenL v_101) h102) call fun v_103 h104 =>
arb (.of (aBin P .lss 3 (.tmp 74) (.tmp 76) v_99 v_103) h104) call fun v_105 h106 =>
cb v_105 (
arb (.val (t 5) h106) call fun v_107 h108 =>
arb (.val (t 5) h108) call fun v_109 h110 =>
arb (.val (t 7) h110) call fun v_111 h112 =>
arb (.of (ixsR 1 v_109 v_111) h112) call fun v_113 h114 =>
arb (.of (ld1 h114 v_113) h114) call fun v_115 h116 =>
arb (bslR 1 [(.int .i64 0)] 1 h116 [(0, 1, v_115)]) call fun v_117 h118 =>
arb (appR 1 8 h118 v_107 v_117) call fun v_119 h120 =>
arb (.val v_119 h120) call fun want_121 h122 =>
k .normal (upd (upd (upd (upd (upd (upd (upd (upd (upd (upd (upd (upd t 74 v_99) 75 v_101) 76 v_103) 77 v_105) 78 v_107) 79 v_109) 80 v_111) 81 v_113) 82 v_115) 83 v_117) 84 v_119) 5 want_121) h122) (
k .normal (upd (upd (upd (upd t 74 v_99) 75 v_101) 76 v_103) 77 v_105) h106)

def J_precentorlaw19_BagOrder_8 (P : Program) (call : FuncId → List AVal → Heap → Res AVal) (fuel : Nat) (k : Kn (Ex × T)) (t : T) (h : Heap) : Res (Ex × T) :=
arb (.val (t 9) h) call fun v_154 h155 =>
cb v_154 (
arb (.val (t 5) h155) call fun v_156 h157 =>
arb (.of (slcR 1 v_156 (some (.int .i64 1)) none none) h157) call fun v_158 h159 =>
arb (.val v_158 h159) call fun want_160 h161 =>
k .normal (upd (upd (upd (upd t 40 v_154) 41 v_156) 42 v_158) 5 want_160) h161) (
k .normal (upd t 40 v_154) h155)

def J_precentorlaw19_BagOrder_5 (P : Program) (call : FuncId → List AVal → Heap → Res AVal) (fuel : Nat) (k : Kn (Ex × T)) (t : T) (h : Heap) : Res (Ex × T) :=
cb (t 43) (
lt (sqK (J_precentorlaw19_BagOrder_6 P call fuel k) k) fun k64 =>
arb (.val (t 6) h) call fun v_65 h66 =>
arb (.call F_precentorlaw19_datagram [v_65] h66) call fun v_67 h68 =>
arb (.val (t 6) h68) call fun v_69 h70 =>
arb (.of (aBin P .add 3 (.tmp 48) (.const (.int .i64 100)) v_69 (.int .i64 100)) h70) call fun v_71 h72 =>
arb (.call F_precentorlaw19_datagram [v_71] h72) call fun v_73 h74 =>
arb (bslR 3 [(.int .i64 0), (.int .i64 0), .nils, (.int .i64 0), (.int .i64 0), .nils] 2 h74 [(0, 3, v_67), (3, 3, v_73)]) call fun v_75 h76 =>
arb (.call F_bag_Bag_Put [(t 4), v_75] h76) call fun v_77 h78 =>
arb (.of (aBin P .neq 3 (.tmp 52) (.const (.int .i64 2)) v_77 (.int .i64 2)) h78) call fun v_79 h80 =>
cb v_79 (
arb (.val (.bool false) h80) call fun v_81 h82 =>
k64 .ret (upd (upd (upd (upd (upd (upd (upd (upd (upd t 46 v_65) 47 v_67) 48 v_69) 49 v_71) 50 v_73) 51 v_75) 52 v_77) 53 v_79) 2 v_81) h82) (
k64 .normal (upd (upd (upd (upd (upd (upd (upd (upd t 46 v_65) 47 v_67) 48 v_69) 49 v_71) 50 v_73) 51 v_75) 52 v_77) 53 v_79) h80)) (
arb (.of (aBin P .eql 3 (.tmp 19) (.const (.int .i64 2)) (t 19) (.int .i64 2)) h) call fun v_83 h84 =>
arb (.val v_83 h84) call fun v_85 h86 =>
cb v_85 (
arb (.val (t 3) h86) call fun v_87 h88 =>
arb (.val (t 5) h88) call fun v_89 h90 =>
arb (.of (lenL v_89) h90) call fun v_91 h92 =>
arb (.of (aBin P .add 3 (.tmp 64) (.const (.int .i64 1)) v_91 (.int .i64 1)) h92) call fun v_93 h94 =>
arb (.call F_precentorhand_Feed_Next [v_87, v_93] h94) call fun v_95 h96 =>
arb (.val v_95 h96) call fun k_97 h98 =>
lt (sqK (J_precentorlaw19_BagOrder_7 P call fuel k) k) fun k123 =>
arb (.val k_97 h98) call fun v_124 h125 =>
arb (.call F_bag_Bag_Twice [(t 4), v_124] h125) call fun v_126 h127 =>
arb (.val k_97 h127) call fun v_128 h129 =>
arb (.val (t 5) h129) call fun v_130 h131 =>
arb (.of (lenL v_130) h131) call fun v_132 h133 =>
arb (.of (aBin P .lss 3 (.tmp 69) (.tmp 71) v_128 v_132) h133) call fun v_134 h135 =>
arb (.of (aBin P .neq 4 (.tmp 68) (.tmp 72) v_126 v_134) h135) call fun v_136 h137 =>
cb v_136 (
arb (.val (.bool false) h137) call fun v_138 h139 =>
k123 .ret (upd (upd (upd (upd (upd (upd (upd (upd (upd (upd (upd (upd (upd (upd (upd (upd t 61 v_83) 60 v_85) 62 v_87) 63 v_89) 64 v_91) 65 v_93) 66 v_95) 7 k_97) 67 v_124) 68 v_126) 69 v_128) 70 v_130) 71 v_132) 72 v_134) 73 v_136) 2 v_138) h139) (
k123 .normal (upd (upd (upd (upd (upd (upd (upd (upd (upd (upd (upd (upd (upd (upd (upd t 61 v_83) 60 v_85) 62 v_87) 63 v_89) 64 v_91) 65 v_93) 66 v_95) 7 k_97) 67 v_124) 68 v_126) 69 v_128) 70 v_130) 71 v_132) 72 v_134) 73 v_136) h137)) (
arb (.call F_bag_Bag_Take [(t 4), (.int .i64 0)] h86) call fun v_140 h141 =>
arb (.val v_140 h141) call fun v_142 h143 =>
arb (extR v_142 0 h143) call fun v_144 h145 =>
arb (extR v_142 1 h145) call fun v_146 h147 =>
arb (newR [(.int .i64 0), (.int .i64 0), .nils] h147) call fun d_148 h149 =>
arb (stR 3 h149 d_148 v_144) call fun v_150 h151 =>
arb (.val v_146 h151) call fun ok_152 h153 =>
lt (sqK (J_precentorlaw19_BagOrder_8 P call fuel k) k) fun k162 =>
obv (.val ok_152 h153) fun v_163 =>
obv (.val (t 5) h153) fun v_164 =>
obv (.of (lenL v_164) h153) fun v_165 =>
obv (.of (aBin P .gtr 3 (.tmp 26) (.const (.int .i64 0)) v_165 (.int .i64 0)) h153) fun v_166 =>
obv (.of (aBin P .neq 4 (.tmp 24) (.tmp 27) v_163 v_166) h153) fun v_167 =>
obv (.val v_167 h153) fun v_168 =>
gd (wantB v_168 false) (fun c => obv (.val ok_152 h153) fun v => c v h153) h153 fun v_169 h170 =>
gd (wantB v_168 false) (fun c => obv (.val v_169 h170) fun v => c v h170) h170 fun v_171 h172 =>
gd (wantB v_171 true) (fun c => obv (.of (fadR 0 d_148) h172) fun v => c v h172) h172 fun v_173 h174 =>
gd (wantB v_171 true) (fun c => obv (.of (ld1 h174 v_173) h174) fun v => c v h174) h174 fun v_175 h176 =>
gd (wantB v_171 true) (fun c => obv (.val (t 5) h176) fun v => c v h176) h176 fun v_177 h178 =>
gd (wantB v_171 true) (fun c => obv (.of (ixsR 1 v_177 (.int .i64 0)) h178) fun v => c v h178) h178 fun v_179 h180 =>
gd (wantB v_171 true) (fun c => obv (.of (ld1 h180 v_179) h180) fun v => c v h180) h180 fun v_181 h182 =>
gd (wantB v_171 true) (fun c => obv (.of (aBin P .neq 3 (.tmp 33) (.tmp 36) v_175 v_181) h182) fun v => c v h182) h182 fun v_183 h184 =>
gd (wantB v_168 false) (fun c => obv (pkR v_171 v_183 (.bool false) h184) fun v => c v h184) h184 fun v_185 h186 =>
obv (pkR v_168 (.bool true) v_185 h186) fun v_187 =>
cb v_187 (
arb (.val (.bool false) h186) call fun v_188 h189 =>
k162 .ret (upd (upd (upd (upd (upd (upd (upd (upd (upd (upd (upd (upd (upd (upd (upd (upd (upd (upd (upd (upd (upd (upd (upd (upd (upd t 61 v_83) 60 v_85) 21 v_140) 20 v_142) 22 v_144) 23 v_146) 8 d_148) 9 ok_152) 24 v_163) 25 v_164) 26 v_165) 27 v_166) 28 v_167) 29 v_168) 30 v_169) 31 v_171) 32 v_173) 33 v_175) 34 v_177) 35 v_179) 36 v_181) 37 v_183) 38 v_185) 39 v_187) 2 v_188) h189) (
k162 .normal (upd (upd (upd (upd (upd (upd (upd (upd (upd (upd (upd (upd (upd (upd (upd (upd (upd (upd (upd (upd (upd (upd (upd (upd t 61 v_83) 60 v_85) 21 v_140) 20 v_142) 22 v_144) 23 v_146) 8 d_148) 9 ok_152) 24 v_163) 25 v_164) 26 v_165) 27 v_166) 28 v_167) 29 v_168) 30 v_169) 31 v_171) 32 v_173) 33 v_175) 34 v_177) 35 v_179) 36 v_181) 37 v_183) 38 v_185) 39 v_187) h186)))

def J_precentorlaw19_BagOrder_2 (P : Program) (call : FuncId → List AVal → Heap → Res AVal) (fuel : Nat) (k : Kn (Ex × T)) (t : T) (h : Heap) : Res (Ex × T) :=
lt (sqK (J_precentorlaw19_BagOrder_3 P call fuel k) k) fun k32 =>
lt (blkK 1 k32) fun k33 =>
lt (sqK (J_precentorlaw19_BagOrder_4 P call fuel k33) k33) fun k44 =>
arb (.val (t 3) h) call fun v_45 h46 =>
arb (.call F_precentorhand_Feed_Next [v_45, (.int .i64 4)] h46) call fun v_47 h48 =>
lt (blkK 2 k44) fun k49 =>
lt (sqK (J_precentorlaw19_BagOrder_5 P call fuel k49) k49) fun k190 =>
arb (.of (aBin P .eql 3 (.tmp 19) (.const (.int .i64 0)) v_47 (.int .i64 0)) h48) call fun v_191 h192 =>
arb (.val v_191 h192) call fun v_193 h194 =>
cb v_193 (
k190 .normal (upd (upd (upd (upd t 18 v_45) 19 v_47) 44 v_191) 43 v_193) h194) (
arb (.of (aBin P .eql 3 (.tmp 19) (.const (.int .i64 1)) v_47 (.int .i64 1)) h194) call fun v_195 h196 =>
arb (.val v_195 h196) call fun v_197 h198 =>
k190 .normal (upd (upd (upd (upd (upd (upd t 18 v_45) 19 v_47) 44 v_191) 43 v_193) 45 v_195) 43 v_197) h198)

def L_precentorlaw19_BagOrder_1 (P : Program) (call : FuncId → List AVal → Heap → Res AVal) (fuel : Nat) (t : T) (h : Heap) : Res (Ex × T) :=
lt okK fun k =>
lt (sqK (J_precentorlaw19_BagOrder_2 P call fuel k) k) fun k199 =>
arb (.val (t 6) h) call fun v_200 h201 =>
arb (.of (aBin P .lss 3 (.tmp 14) (.const (.int .i64 40)) v_200 (.int .i64 40)) h201) call fun v_202 h203 =>
cb v_202 (
k199 .normal (upd (upd t 14 v_200) 15 v_202) h203) (
k199 (.exit 0) (upd (upd t 14 v_200) 15 v_202) h203)

def S_precentorlaw19_BagOrder (P : Program) (call : FuncId → List AVal → Heap → Res AVal) (fuel : Nat) (l_a0 : AVal) (h : Heap) : Res AVal :=
lt (retK P [.tmp 2]) fun k =>
arb (.val (.bool false) h) call fun v_0 h1 =>
arb (.val l_a0 h1) call fun v_2 h3 =>
arb (.of (bldR [.nils, (.int .i64 0)] [(0, 1, v_2)]) h3) call fun v_4 h5 =>
arb (boxR v_4 h5) call fun v_6 h7 =>
arb (.val v_6 h7) call fun f_8 h9 =>
arb (.of (bldR [.nils] []) h9) call fun v_10 h11 =>
arb (newR [.nils] h11) call fun b_12 h13 =>
arb (stR 1 h13 b_12 v_10) call fun v_14 h15 =>
arb (.val .nils h15) call fun want_16 h17 =>
lt (sqK (J_precentorlaw19_BagOrder_0 P call fuel k) k) fun k22 =>
arb (.val (.int .i64 0) h17) call fun i_23 h24 =>
lt (blkK 0 k22) fun k25 =>
(loopN (L_precentorlaw19_BagOrder_1 P call fuel) fuel (upd (upd (upd (upd (upd (upd (upd (upd (upd (enterT [l_a0]) 2 v_0) 10 v_2) 11 v_4) 12 v_6) 3 f_8) 13 v_10) 4 b_12) 5 want_16) 6 i_23) h24).bind (lpK k25)
theorem E_precentorlaw19_BagOrder (call : FuncId → List AVal → Heap → Res AVal) (fuel : Nat) (l_a0 : AVal) (h : Heap) : bodyR Try.prog call fuel Try.f6 [l_a0] h = S_precentorlaw19_BagOrder Try.prog call fuel l_a0 h := by kernel_rfl
theorem R_precentorlaw19_BagOrder {X : XTab} (l_a0 : AVal) {h : Heap} {Q : AVal → Heap → Prop} (hx : X F_precentorlaw19_BagOrder [l_a0] = none) (q : Tells (fun m => S_precentorlaw19_BagOrder Try.prog (acallX Try.prog X m) m l_a0 h) Q) :
    Tells (fun m => acallX Try.prog X m F_precentorlaw19_BagOrder [l_a0] h) Q :=
  Tells.later (q.le fun m => (E_precentorlaw19_BagOrder (acallX Try.prog X m) m l_a0 h) ▸ acallX_le Try.func6 hx m h)

/-! ### precentor/precentorlaw19.datagram -/

theorem C_precentorlaw19_datagram_0 (h : Heap) (a : AVal) : aLoad Try.prog h 28 a = ldn 3 h a := by kernel_rfl
def S_precentorlaw19_datagram (P : Program) (call : FuncId → List AVal → Heap → Res AVal) (fuel : Nat) (n_a0 : AVal) (h : Heap) : Res AVal :=
lt (retK P [.cell 2 28]) fun k =>
arb (newR [(.int .i64 0), (.int .i64 0), .nils] h) call fun v_0 h1 =>
arb (.val n_a0 h1) call fun v_2 h3 =>
arb (.val n_a0 h3) call fun v_4 h5 =>
arb (aConv P h5 3 5 v_4) call fun v_6 h7 =>
arb (bslR 1 [(.int .u8 0)] 1 h7 [(0, 1, v_6)]) call fun v_8 h9 =>
arb (.of (bldR [(.int .i64 0), (.int .i64 0), .nils] [(0, 1, v_2), (1, 1, (.int .i64 1)), (2, 1, v_8)]) h9) call fun v_10 h11 =>
arb (stR 3 h11 v_0 v_10) call fun v_12 h13 =>
k .ret (upd (upd (upd (upd (upd (upd (enterT [n_a0]) 2 v_0) 3 v_2) 4 v_4) 5 v_6) 6 v_8) 7 v_10) h13
theorem E_precentorlaw19_datagram (call : FuncId → List AVal → Heap → Res AVal) (fuel : Nat) (n_a0 : AVal) (h : Heap) : bodyR Try.prog call fuel Try.f8 [n_a0] h = S_precentorlaw19_datagram Try.prog call fuel n_a0 h := by kernel_rfl
theorem R_precentorlaw19_datagram {X : XTab} (n_a0 : AVal) {h : Heap} {Q : AVal → Heap → Prop} (hx : X F_precentorlaw19_datagram [n_a0] = none) (q : Tells (fun m => S_precentorlaw19_datagram Try.prog (acallX Try.prog X m) m n_a0 h) Q) :
    Tells (fun m => acallX Try.prog X m F_precentorlaw19_datagram [n_a0] h) Q :=
  Tells.later (q.le fun m => (E_precentorlaw19_datagram (acallX Try.prog X m) m n_a0 h) ▸ acallX_le Try.func8 hx m h)

/-! ### precentor/precentorlaw19.same -/
def J_precentorlaw19_same_1 (P : Program) (call : FuncId → List AVal → Heap → Res AVal) (fuel : Nat) (k : Kn (AVal)) (t : T) (h : Heap) : Res (AVal) :=
arb (.val (.bool true) h) call fun v_2 h3 =>
k .ret (upd t 4 v_2) h3

def J_precentorlaw19_same_4 (P : Program) (call : FuncId → List AVal → Heap → Res AVal) (fuel : Nat) (k : Kn (Ex × T)) (t : T) (h : Heap) : Res (Ex × T) :=
arb (.val (t 5) h) call fun v_8 h9 =>
arb (.of (aBin P .add 3 (.tmp 15) (.const (.int .i64 1)) v_8 (.int .i64 1)) h9) call fun v_10 h11 =>
arb (.val v_10 h11) call fun i_12 h13 =>
k .normal (upd (upd (upd t 15 v_8) 16 v_10) 5 i_12) h13

def J_precentorlaw19_same_3 (P : Program) (call : FuncId → List AVal → Heap → Res AVal) (fuel : Nat) (k : Kn (Ex × T)) (t : T) (h : Heap) : Res (Ex × T) :=
lt (sqK (J_precentorlaw19_same_4 P call fuel k) k) fun k14 =>
lt (blkK 1 k14) fun k15 =>
obv (.val (t 0) h) fun v_16 =>
obv (.val (t 5) h) fun v_17 =>
obv (.of (ixsR 3 v_16 v_17) h) fun v_18 =>
obv (.of (fadR 0 v_18) h) fun v_19 =>
obv (.of (ld1 h v_19) h) fun v_20 =>
obv (.val (t 1) h) fun v_21 =>
obv (.val (t 5) h) fun v_22 =>
obv (.of (ixsR 3 v_21 v_22) h) fun v_23 =>
obv (.of (fadR 0 v_23) h) fun v_24 =>
obv (.of (ld1 h v_24) h) fun v_25 =>
obv (.of (aBin P .neq 3 (.tmp 21) (.tmp 26) v_20 v_25) h) fun v_26 =>
obv (.val v_26 h) fun v_27 =>
gd (wantB v_27 false) (fun c => obv (.val (t 0) h) fun v => c v h) h fun v_28 h29 =>
gd (wantB v_27 false) (fun c => obv (.val (t 5) h29) fun v => c v h29) h29 fun v_30 h31 =>
gd (wantB v_27 false) (fun c => obv (.of (ixsR 3 v_28 v_30) h31) fun v => c v h31) h31 fun v_32 h33 =>
gd (wantB v_27 false) (fun c => obv (.of (fadR 1 v_32) h33) fun v => c v h33) h33 fun v_34 h35 =>
gd (wantB v_27 false) (fun c => obv (.of (ld1 h35 v_34) h35) fun v => c v h35) h35 fun v_36 h37 =>
gd (wantB v_27 false) (fun c => obv (.val (t 1) h37) fun v => c v h37) h37 fun v_38 h39 =>
gd (wantB v_27 false) (fun c => obv (.val (t 5) h39) fun v => c v h39) h39 fun v_40 h41 =>
gd (wantB v_27 false) (fun c => obv (.of (ixsR 3 v_38 v_40) h41) fun v => c v h41) h41 fun v_42 h43 =>
gd (wantB v_27 false) (fun c => obv (.of (fadR 1 v_42) h43) fun v => c v h43) h43 fun v_44 h45 =>
gd (wantB v_27 false) (fun c => obv (.of (ld1 h45 v_44) h45) fun v => c v h45) h45 fun v_46 h47 =>
gd (wantB v_27 false) (fun c => obv (.of (aBin P .neq 3 (.tmp 33) (.tmp 38) v_36 v_46) h47) fun v => c v h47) h47 fun v_48 h49 =>
obv (pkR v_27 (.bool true) v_48 h49) fun v_50 =>
obv (.val v_50 h49) fun v_51 =>
gd (wantB v_51 false) (fun c => obv (.val (t 0) h49) fun v => c v h49) h49 fun v_52 h53 =>
gd (wantB v_51 false) (fun c => obv (.val (t 5) h53) fun v => c v h53) h53 fun v_54 h55 =>
gd (wantB v_51 false) (fun c => obv (.of (ixsR 3 v_52 v_54) h55) fun v => c v h55) h55 fun v_56 h57 =>
gd (wantB v_51 false) (fun c => obv (.of (fadR 2 v_56) h57) fun v => c v h57) h57 fun v_58 h59 =>
gd (wantB v_51 false) (fun c => obv (.of (ld1 h59 v_58) h59) fun v => c v h59) h59 fun v_60 h61 =>
gd (wantB v_51 false) (fun c => obv (aConv P h61 26 9 v_60) fun v => c v h61) h61 fun v_62 h63 =>
gd (wantB v_51 false) (fun c => obv (.val (t 1) h63) fun v => c v h63) h63 fun v_64 h65 =>
gd (wantB v_51 false) (fun c => obv (.val (t 5) h65) fun v => c v h65) h65 fun v_66 h67 =>
gd (wantB v_51 false) (fun c => obv (.of (ixsR 3 v_64 v_66) h67) fun v => c v h67) h67 fun v_68 h69 =>
gd (wantB v_51 false) (fun c => obv (.of (fadR 2 v_68) h69) fun v => c v h69) h69 fun v_70 h71 =>
gd (wantB v_51 false) (fun c => obv (.of (ld1 h71 v_70) h71) fun v => c v h71) h71 fun v_72 h73 =>
gd (wantB v_51 false) (fun c => obv (aConv P h73 26 9 v_72) fun v => c v h73) h73 fun v_74 h75 =>
gd (wantB v_51 false) (fun c => obv (.of (aBin P .neq 9 (.tmp 47) (.tmp 53) v_62 v_74) h75) fun v => c v h75) h75 fun v_76 h77 =>
obv (pkR v_51 (.bool true) v_76 h77) fun v_78 =>
cb v_78 (
arb (.val (.bool false) h77) call fun v_79 h80 =>
k15 .ret (upd (upd (upd (upd (upd (upd (upd (upd (upd (upd (upd (upd (upd (upd (upd (upd (upd (upd (upd (upd (upd (upd (upd (upd (upd (upd (upd (upd (upd (upd (upd (upd (upd (upd (upd (upd (upd (upd (upd (upd t 17 v_16) 18 v_17) 19 v_18) 20 v_19) 21 v_20) 22 v_21) 23 v_22) 24 v_23) 25 v_24) 26 v_25) 27 v_26) 28 v_27) 29 v_28) 30 v_30) 31 v_32) 32 v_34) 33 v_36) 34 v_38) 35 v_40) 36 v_42) 37 v_44) 38 v_46) 39 v_48) 40 v_50) 41 v_51) 42 v_52) 43 v_54) 44 v_56) 45 v_58) 46 v_60) 47 v_62) 48 v_64) 49 v_66) 50 v_68) 51 v_70) 52 v_72) 53 v_74) 54 v_76) 55 v_78) 4 v_79) h80) (
k15 .normal (upd (upd (upd (upd (upd (upd (upd (upd (upd (upd (upd (upd (upd (upd (upd (upd (upd (upd (upd (upd (upd (upd (upd (upd (upd (upd (upd (upd (upd (upd (upd (upd (upd (upd (upd (upd (upd (upd (upd t 17 v_16) 18 v_17) 19 v_18) 20 v_19) 21 v_20) 22 v_21) 23 v_22) 24 v_23) 25 v_24) 26 v_25) 27 v_26) 28 v_27) 29 v_28) 30 v_30) 31 v_32) 32 v_34) 33 v_36) 34 v_38) 35 v_40) 36 v_42) 37 v_44) 38 v_46) 39 v_48) 40 v_50) 41 v_51) 42 v_52) 43 v_54) 44 v_56) 45 v_58) 46 v_60) 47 v_62) 48 v_64) 49 v_66) 50 v_68) 51 v_70) 52 v_72) 53 v_74) 54 v_76) 55 v_78) h77)

def L_precentorlaw19_same_2 (P : Program) (call : FuncId → List AVal → Heap → Res AVal) (fuel : Nat) (t : T) (h : Heap) : Res (Ex × T) :=
lt okK fun k =>
lt (sqK (J_precentorlaw19_same_3 P call fuel k) k) fun k81 =>
arb (.val (t 5) h) call fun v_82 h83 =>
arb (.val (t 0) h83) call fun v_84 h85 =>
arb (.of (lenL v_84) h85) call fun v_86 h87 =>
arb (.of (aBin P .lss 3 (.tmp 11) (.tmp 13) v_82 v_86) h87) call fun v_88 h89 =>
cb v_88 (
k81 .normal (upd (upd (upd (upd t 11 v_82) 12 v_84) 13 v_86) 14 v_88) h89) (
k81 (.exit 0) (upd (upd (upd (upd t 11 v_82) 12 v_84) 13 v_86) 14 v_88) h89)

def J_precentorlaw19_same_0 (P : Program) (call : FuncId → List AVal → Heap → Res AVal) (fuel : Nat) (k : Kn (AVal)) (t : T) (h : Heap) : Res (AVal) :=
lt (sqK (J_precentorlaw19_same_1 P call fuel k) k) fun k4 =>
arb (.val (.int .i64 0) h) call fun i_5 h6 =>
lt (blkK 0 k4) fun k7 =>
(loopN (L_precentorlaw19_same_2 P call fuel) fuel (upd t 5 i_5) h6).bind (lpK k7)

def S_precentorlaw19_same (P : Program) (call : FuncId → List AVal → Heap → Res AVal) (fuel : Nat) (a_a0 b_a1 : AVal) (h : Heap) : Res AVal :=
lt (retK P [.tmp 4]) fun k =>
arb (.val (.bool false) h) call fun v_0 h1 =>
lt (sqK (J_precentorlaw19_same_0 P call fuel k) k) fun k90 =>
arb (.val a_a0 h1) call fun v_91 h92 =>
arb (.of (lenL v_91) h92) call fun v_93 h94 =>
arb (.val b_a1 h94) call fun v_95 h96 =>
arb (.of (lenL v_95) h96) call fun v_97 h98 =>
arb (.of (aBin P .neq 3 (.tmp 7) (.tmp 9) v_93 v_97) h98) call fun v_99 h100 =>
cb v_99 (
arb (.val (.bool false) h100) call fun v_101 h102 =>
k90 .ret (upd (upd (upd (upd (upd (upd (upd (enterT [a_a0, b_a1]) 4 v_0) 6 v_91) 7 v_93) 8 v_95) 9 v_97) 10 v_99) 4 v_101) h102) (
k90 .normal (upd (upd (upd (upd (upd (upd (enterT [a_a0, b_a1]) 4 v_0) 6 v_91) 7 v_93) 8 v_95) 9 v_97) 10 v_99) h100)
theorem E_precentorlaw19_same (call : FuncId → List AVal → Heap → Res AVal) (fuel : Nat) (a_a0 b_a1 : AVal) (h : Heap) : bodyR Try.prog call fuel Try.f18 [a_a0, b_a1] h = S_precentorlaw19_same Try.prog call fuel a_a0 b_a1 h := by kernel_rfl
theorem R_precentorlaw19_same {X : XTab} (a_a0 b_a1 : AVal) {h : Heap} {Q : AVal → Heap → Prop} (hx : X F_precentorlaw19_same [a_a0, b_a1] = none) (q : Tells (fun m => S_precentorlaw19_same Try.prog (acallX Try.prog X m) m a_a0 b_a1 h) Q) :
    Tells (fun m => acallX Try.prog X m F_precentorlaw19_same [a_a0, b_a1] h) Q :=
  Tells.later (q.le fun m => (E_precentorlaw19_same (acallX Try.prog X m) m a_a0 b_a1 h) ▸ acallX_le Try.func18 hx m h)

/-! ### precentor/precentorlaw19.known -/

def S_precentorlaw19_known (P : Program) (call : FuncId → List AVal → Heap → Res AVal) (fuel : Nat) (h : Heap) : Res AVal :=
lt (retK P [.tmp 0]) fun k =>
arb (.val (.bool false) h) call fun v_0 h1 =>
arb (.call F_precentorlaw19_BagKnown [] h1) call fun v_2 h3 =>
arb (.val v_2 h3) call fun v_4 h5 =>
k .ret (upd (upd (upd (enterT []) 0 v_0) 1 v_2) 0 v_4) h5
theorem E_precentorlaw19_known (call : FuncId → List AVal → Heap → Res AVal) (fuel : Nat) (h : Heap) : bodyR Try.prog call fuel Try.f20 [] h = S_precentorlaw19_known Try.prog call fuel  h := by kernel_rfl
theorem R_precentorlaw19_known {X : XTab} {h : Heap} {Q : AVal → Heap → Prop} (hx : X F_precentorlaw19_known [] = none) (q : Tells (fun m => S_precentorlaw19_known Try.prog (acallX Try.prog X m) m  h) Q) :
    Tells (fun m => acallX Try.prog X m F_precentorlaw19_known [] h) Q :=
  Tells.later (q.le fun m => (E_precentorlaw19_known (acallX Try.prog X m) m  h) ▸ acallX_le Try.func20 hx m h)


end Go.Proofs.Ythepnokmoaipfaa
