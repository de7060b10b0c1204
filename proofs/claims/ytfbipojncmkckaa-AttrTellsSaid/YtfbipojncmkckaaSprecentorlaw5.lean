/-
  Functions of precentorlaw5 in the form of YtfbipojncmkckaaABS (printed by a program of ours, gen.lean).
-/
import Derived.Test.YtfbipojncmkckaaSIds
set_option linter.unusedVariables false
namespace Go.Proofs.Ytfbipojncmkckaa
open Go.Ab
/-! ### precentor/precentorlaw5.AttrTells -/
def J_precentorlaw5_AttrTells_1 (P : Program) (call : FuncId → List AVal → Heap → Res AVal) (fuel : Nat) (k : Kn (AVal)) (t : T) (h : Heap) : Res (AVal) :=
arb (.call F_precentorlaw5_known [] h) call fun v_30 h31 =>
arb (.val v_30 h31) call fun v_32 h33 =>
gd (wantB v_32 true) (fun c => arb (.val (t 10) h33) call c) h33 fun v_34 h35 =>
gd (wantB v_32 true) (fun c => arb (.call F_attr_Right [v_34] h35) call c) h35 fun v_36 h37 =>
gd (wantB v_32 true) (fun c => arb (.val (t 10) h37) call c) h37 fun v_38 h39 =>
gd (wantB v_32 true) (fun c => arb (.call F_precentorref1_RightAttrs [v_38] h39) call c) h39 fun v_40 h41 =>
gd (wantB v_32 true) (fun c => arb (.of (aBin P .eql 4 (.tmp 72) (.tmp 74) v_36 v_40) h41) call c) h41 fun v_42 h43 =>
arb (pkR v_32 v_42 (.bool false) h43) call fun v_44 h45 =>
arb (.val v_44 h45) call fun v_46 h47 =>
gd (wantB v_46 true) (fun c => arb (.val (t 10) h47) call c) h47 fun v_48 h49 =>
gd (wantB v_46 true) (fun c => arb (.val (t 11) h49) call c) h49 fun v_50 h51 =>
gd (wantB v_46 true) (fun c => arb (.call F_attr_Same [v_48, v_50] h51) call c) h51 fun v_52 h53 =>
gd (wantB v_46 true) (fun c => arb (.val (t 10) h53) call c) h53 fun v_54 h55 =>
gd (wantB v_46 true) (fun c => arb (.val (t 11) h55) call c) h55 fun v_56 h57 =>
gd (wantB v_46 true) (fun c => arb (.call F_precentorref1_SameAttrs [v_54, v_56] h57) call c) h57 fun v_58 h59 =>
gd (wantB v_46 true) (fun c => arb (.of (aBin P .eql 4 (.tmp 80) (.tmp 83) v_52 v_58) h59) call c) h59 fun v_60 h61 =>
arb (pkR v_46 v_60 (.bool false) h61) call fun v_62 h63 =>
arb (.val v_62 h63) call fun v_64 h65 =>
gd (wantB v_64 true) (fun c => arb (.val (t 10) h65) call c) h65 fun v_66 h67 =>
gd (wantB v_64 true) (fun c => arb (.call F_attr_Copy [v_66] h67) call c) h67 fun v_68 h69 =>
gd (wantB v_64 true) (fun c => arb (.val (t 10) h69) call c) h69 fun v_70 h71 =>
gd (wantB v_64 true) (fun c => arb (.call F_precentorref1_SameAttrs [v_68, v_70] h71) call c) h71 fun v_72 h73 =>
arb (pkR v_64 v_72 (.bool false) h73) call fun v_74 h75 =>
arb (.val v_74 h75) call fun v_76 h77 =>
k .ret (upd (upd (upd (upd (upd (upd (upd (upd (upd (upd (upd (upd (upd (upd (upd (upd (upd (upd (upd (upd (upd (upd (upd (upd t 69 v_30) 70 v_32) 71 v_34) 72 v_36) 73 v_38) 74 v_40) 75 v_42) 76 v_44) 77 v_46) 78 v_48) 79 v_50) 80 v_52) 81 v_54) 82 v_56) 83 v_58) 84 v_60) 85 v_62) 86 v_64) 87 v_66) 88 v_68) 89 v_70) 90 v_72) 91 v_74) 8 v_76) h77

def J_precentorlaw5_AttrTells_4 (P : Program) (call : FuncId → List AVal → Heap → Res AVal) (fuel : Nat) (k : Kn (Ex × T)) (t : T) (h : Heap) : Res (Ex × T) :=
arb (.of (aBin P .add 3 (.tmp 37) (.const (.int .i64 1)) (t 37) (.int .i64 1)) h) call fun v_88 h89 =>
arb (.val v_88 h89) call fun v_90 h91 =>
k .normal (upd (upd t 68 v_88) 37 v_90) h91

def J_precentorlaw5_AttrTells_3 (P : Program) (call : FuncId → List AVal → Heap → Res AVal) (fuel : Nat) (k : Kn (Ex × T)) (t : T) (h : Heap) : Res (Ex × T) :=
lt (sqK (J_precentorlaw5_AttrTells_4 P call fuel k) k) fun k92 =>
lt (blkK 1 k92) fun k93 =>
arb (.of (ixa1 4 1 (t 36) (t 37)) h) call fun v_94 h95 =>
arb (.val v_94 h95) call fun n_96 h97 =>
arb (.val (t 10) h97) call fun v_98 h99 =>
arb (.val n_96 h99) call fun v_100 h101 =>
arb (.call F_attr_Get [v_98, v_100] h101) call fun v_102 h103 =>
arb (.val v_102 h103) call fun v_104 h105 =>
arb (extR v_104 0 h105) call fun v_106 h107 =>
arb (extR v_104 1 h107) call fun v_108 h109 =>
arb (newR [(.int .i64 0), (.int .i64 0), (.flt .f64 0), (.str (bs [])), (.bool false)] h109) call fun v_110 h111 =>
arb (stR 5 h111 v_110 v_106) call fun v_112 h113 =>
arb (.val v_108 h113) call fun ok_114 h115 =>
arb (.val (t 10) h115) call fun v_116 h117 =>
arb (.val n_96 h117) call fun v_118 h119 =>
arb (.call F_precentorref1_Get [v_116, v_118] h119) call fun v_120 h121 =>
arb (.val v_120 h121) call fun v_122 h123 =>
arb (extR v_122 0 h123) call fun v_124 h125 =>
arb (extR v_122 1 h125) call fun v_126 h127 =>
arb (newR [(.int .i64 0), (.int .i64 0), (.flt .f64 0), (.str (bs [])), (.bool false)] h127) call fun w_128 h129 =>
arb (stR 5 h129 w_128 v_124) call fun v_130 h131 =>
arb (.val v_126 h131) call fun is_132 h133 =>
arb (.val ok_114 h133) call fun v_134 h135 =>
arb (.val is_132 h135) call fun v_136 h137 =>
arb (.of (aBin P .neq 4 (.tmp 52) (.tmp 53) v_134 v_136) h137) call fun v_138 h139 =>
arb (.val v_138 h139) call fun v_140 h141 =>
gd (wantB v_140 false) (fun c => arb (.of (ldn 5 h141 v_110) h141) call c) h141 fun v_142 h143 =>
gd (wantB v_140 false) (fun c => arb (.of (ldn 5 h143 w_128) h143) call c) h143 fun v_144 h145 =>
gd (wantB v_140 false) (fun c => arb (.call F_precentorref1_SameValue [v_142, v_144] h145) call c) h145 fun v_146 h147 =>
gd (wantB v_140 false) (fun c => arb (.of (aUn P .not v_146) h147) call c) h147 fun v_148 h149 =>
arb (pkR v_140 (.bool true) v_148 h149) call fun v_150 h151 =>
arb (.val v_150 h151) call fun v_152 h153 =>
gd (wantB v_152 false) (fun c => arb (.val n_96 h153) call c) h153 fun v_154 h155 =>
gd (wantB v_152 false) (fun c => arb (.call F_attr_Word [v_154] h155) call c) h155 fun v_156 h157 =>
gd (wantB v_152 false) (fun c => arb (.val n_96 h157) call c) h157 fun v_158 h159 =>
gd (wantB v_152 false) (fun c => arb (.call F_precentorref1_Word [v_158] h159) call c) h159 fun v_160 h161 =>
gd (wantB v_152 false) (fun c => arb (.of (aBin P .neq 4 (.tmp 63) (.tmp 65) v_156 v_160) h161) call c) h161 fun v_162 h163 =>
arb (pkR v_152 (.bool true) v_162 h163) call fun v_164 h165 =>
cb v_164 (
arb (.val (.bool false) h165) call fun v_166 h167 =>
k93 .ret (upd (upd (upd (upd (upd (upd (upd (upd (upd (upd (upd (upd (upd (upd (upd (upd (upd (upd (upd (upd (upd (upd (upd (upd (upd (upd (upd (upd (upd (upd (upd (upd (upd (upd (upd t 39 v_94) 13 n_96) 41 v_98) 42 v_100) 43 v_102) 40 v_104) 44 v_106) 45 v_108) 14 v_110) 15 ok_114) 47 v_116) 48 v_118) 49 v_120) 46 v_122) 50 v_124) 51 v_126) 16 w_128) 17 is_132) 52 v_134) 53 v_136) 54 v_138) 55 v_140) 56 v_142) 57 v_144) 58 v_146) 59 v_148) 60 v_150) 61 v_152) 62 v_154) 63 v_156) 64 v_158) 65 v_160) 66 v_162) 67 v_164) 8 v_166) h167) (
k93 .normal (upd (upd (upd (upd (upd (upd (upd (upd (upd (upd (upd (upd (upd (upd (upd (upd (upd (upd (upd (upd (upd (upd (upd (upd (upd (upd (upd (upd (upd (upd (upd (upd (upd (upd t 39 v_94) 13 n_96) 41 v_98) 42 v_100) 43 v_102) 40 v_104) 44 v_106) 45 v_108) 14 v_110) 15 ok_114) 47 v_116) 48 v_118) 49 v_120) 46 v_122) 50 v_124) 51 v_126) 16 w_128) 17 is_132) 52 v_134) 53 v_136) 54 v_138) 55 v_140) 56 v_142) 57 v_144) 58 v_146) 59 v_148) 60 v_150) 61 v_152) 62 v_154) 63 v_156) 64 v_158) 65 v_160) 66 v_162) 67 v_164) h165)

def L_precentorlaw5_AttrTells_2 (P : Program) (call : FuncId → List AVal → Heap → Res AVal) (fuel : Nat) (t : T) (h : Heap) : Res (Ex × T) :=
lt okK fun k =>
arb (.of (aBin P .lss 3 (.tmp 37) (.const (.int .i64 4)) (t 37) (.int .i64 4)) h) call fun v_86 h87 =>
lt (sqK (J_precentorlaw5_AttrTells_3 P call fuel k) k) fun k168 =>
cb v_86 (
k168 .normal (upd t 38 v_86) h87) (
k168 (.exit 0) (upd t 38 v_86) h87)

def J_precentorlaw5_AttrTells_0 (P : Program) (call : FuncId → List AVal → Heap → Res AVal) (fuel : Nat) (k : Kn (AVal)) (t : T) (h : Heap) : Res (AVal) :=
lt (sqK (J_precentorlaw5_AttrTells_1 P call fuel k) k) fun k78 =>
arb (.val (t 3) h) call fun v_79 h80 =>
arb (.of (bldR [(.str (bs [])), (.str (bs [])), (.str (bs [])), (.str (bs []))] [(0, 1, v_79), (1, 1, (.str (bs [97]))), (2, 1, (.str (bs [108, 111, 110, 103]))), (3, 1, (.str (bs [])))]) h80) call fun v_81 h82 =>
arb (.val (.int .i64 0) h82) call fun v_83 h84 =>
lt (blkK 0 k78) fun k85 =>
(loopN (L_precentorlaw5_AttrTells_2 P call fuel) fuel (upd (upd (upd t 35 v_79) 36 v_81) 37 v_83) h84).bind (lpK k85)

def S_precentorlaw5_AttrTells (P : Program) (call : FuncId → List AVal → Heap → Res AVal) (fuel : Nat) (raw_a0 more_a1 l_a2 name_a3 : AVal) (h : Heap) : Res AVal :=
lt (retK P [.tmp 8]) fun k =>
arb (.val (.bool false) h) call fun v_0 h1 =>
arb (.val l_a2 h1) call fun v_2 h3 =>
arb (.of (bldR [.nils, (.int .i64 0)] [(0, 1, v_2)]) h3) call fun v_4 h5 =>
arb (boxR v_4 h5) call fun v_6 h7 =>
arb (.val v_6 h7) call fun f_8 h9 =>
arb (.val raw_a0 h9) call fun v_10 h11 =>
arb (.val f_8 h11) call fun v_12 h13 =>
arb (.val name_a3 h13) call fun v_14 h15 =>
arb (.call F_precentorlaw5_attrs [v_10, v_12, v_14] h15) call fun v_16 h17 =>
arb (.val v_16 h17) call fun a_18 h19 =>
arb (.val more_a1 h19) call fun v_20 h21 =>
arb (.val f_8 h21) call fun v_22 h23 =>
arb (.val name_a3 h23) call fun v_24 h25 =>
arb (.call F_precentorlaw5_attrs [v_20, v_22, v_24] h25) call fun v_26 h27 =>
arb (.val v_26 h27) call fun b_28 h29 =>
lt (sqK (J_precentorlaw5_AttrTells_0 P call fuel k) k) fun k169 =>
arb (.val f_8 h29) call fun v_170 h171 =>
arb (.call F_precentorhand_Feed_Next [v_170, (.int .i64 3)] h171) call fun v_172 h173 =>
arb (.of (aBin P .eql 3 (.tmp 30) (.const (.int .i64 0)) v_172 (.int .i64 0)) h173) call fun v_174 h175 =>
cb v_174 (
arb (bslR 6 [] 0 h175 []) call fun v_176 h177 =>
arb (.val a_18 h177) call fun v_178 h179 =>
arb (appR 6 64 h179 v_176 v_178) call fun v_180 h181 =>
arb (.val v_180 h181) call fun b_182 h183 =>
k169 .normal (upd (upd (upd (upd (upd (upd (upd (upd (upd (upd (upd (upd (upd (upd (upd (upd (upd (upd (upd (upd (upd (upd (enterT [raw_a0, more_a1, l_a2, name_a3]) 8 v_0) 18 v_2) 19 v_4) 20 v_6) 9 f_8) 21 v_10) 22 v_12) 23 v_14) 24 v_16) 10 a_18) 25 v_20) 26 v_22) 27 v_24) 28 v_26) 11 b_28) 29 v_170) 30 v_172) 31 v_174) 32 v_176) 33 v_178) 34 v_180) 11 b_182) h183) (
k169 .normal (upd (upd (upd (upd (upd (upd (upd (upd (upd (upd (upd (upd (upd (upd (upd (upd (upd (upd (enterT [raw_a0, more_a1, l_a2, name_a3]) 8 v_0) 18 v_2) 19 v_4) 20 v_6) 9 f_8) 21 v_10) 22 v_12) 23 v_14) 24 v_16) 10 a_18) 25 v_20) 26 v_22) 27 v_24) 28 v_26) 11 b_28) 29 v_170) 30 v_172) 31 v_174) h175)
theorem E_precentorlaw5_AttrTells (call : FuncId → List AVal → Heap → Res AVal) (fuel : Nat) (raw_a0 more_a1 l_a2 name_a3 : AVal) (h : Heap) : bodyR Try.prog call fuel Try.f4 [raw_a0, more_a1, l_a2, name_a3] h = S_precentorlaw5_AttrTells Try.prog call fuel raw_a0 more_a1 l_a2 name_a3 h := by kernel_rfl
theorem R_precentorlaw5_AttrTells {X : XTab} (raw_a0 more_a1 l_a2 name_a3 : AVal) {h : Heap} {Q : AVal → Heap → Prop} (hx : X F_precentorlaw5_AttrTells [raw_a0, more_a1, l_a2, name_a3] = none) (q : Tells (fun m => S_precentorlaw5_AttrTells Try.prog (acallX Try.prog X m) m raw_a0 more_a1 l_a2 name_a3 h) Q) :
    Tells (fun m => acallX Try.prog X m F_precentorlaw5_AttrTells [raw_a0, more_a1, l_a2, name_a3] h) Q :=
  Tells.later (q.le fun m => (E_precentorlaw5_AttrTells (acallX Try.prog X m) m raw_a0 more_a1 l_a2 name_a3 h) ▸ acallX_le Try.func4 hx m h)

/-! ### precentor/precentorlaw5.AttrFinds -/
def J_precentorlaw5_AttrFinds_2 (P : Program) (call : FuncId → List AVal → Heap → Res AVal) (fuel : Nat) (k : Kn (AVal)) (t : T) (h : Heap) : Res (AVal) :=
arb (.val (t 1) h) call fun v_16 h17 =>
arb (.val (t 6) h17) call fun v_18 h19 =>
arb (.of (lenL v_18) h19) call fun v_20 h21 =>
arb (.call F_precentorhand_Pick [v_16, v_20] h21) call fun v_22 h23 =>
arb (.val v_22 h23) call fun k_24 h25 =>
arbV (bslR 6 [] 0 h25 []) fun v_26 h27 =>
obv (.val (t 6) h27) fun v_28 =>
obv (.val k_24 h27) fun v_30 =>
obv (.of (slcR 6 v_28 none (some v_30) none) h27) fun v_32 =>
arbE (appR 6 64 h27 v_26 v_32) call fun v_34 h35 => lt h35 fun g35 => ifb (true && true) <|
obv (.val (t 6) g35) fun v_36 =>
obv (.val k_24 g35) fun v_38 =>
obv (.of (aBin P .add 3 (.tmp 79) (.const (.int .i64 1)) v_38 (.int .i64 1)) g35) fun v_40 =>
obv (.of (slcR 6 v_36 (some v_40) none none) g35) fun v_42 =>
arbE (appR 6 64 g35 v_34 v_42) call fun v_44 h45 => lt h45 fun g45 => ifb (true && true) <|
obv (.val v_44 g45) fun b_46 =>
arb (.val b_46 g45) call fun v_48 h49 =>
arb (.val (t 6) h49) call fun v_50 h51 =>
arb (.val k_24 h51) call fun v_52 h53 =>
arb (.of (ixsR 6 v_50 v_52) h53) call fun v_54 h55 =>
arb (.of (fadR 0 v_54) h55) call fun v_56 h57 =>
arb (.of (ld1 h57 v_56) h57) call fun v_58 h59 =>
arb (.call F_attr_Get [v_48, v_58] h59) call fun v_60 h61 =>
arb (.val v_60 h61) call fun v_62 h63 =>
arb (extR v_62 0 h63) call fun v_64 h65 =>
arb (extR v_62 1 h65) call fun v_66 h67 =>
arb (newR [(.int .i64 0), (.int .i64 0), (.flt .f64 0), (.str (bs [])), (.bool false)] h67) call fun v_68 h69 =>
arb (stR 5 h69 v_68 v_64) call fun v_70 h71 =>
arb (.val v_66 h71) call fun gone_72 h73 =>
arb (.val b_46 h73) call fun v_74 h75 =>
arb (.call F_attr_Right [v_74] h75) call fun v_76 h77 =>
arb (.val v_76 h77) call fun v_78 h79 =>
gd (wantB v_78 true) (fun c => arb (.val gone_72 h79) call c) h79 fun v_80 h81 =>
gd (wantB v_78 true) (fun c => arb (.of (aUn P .not v_80) h81) call c) h81 fun v_82 h83 =>
arb (pkR v_78 v_82 (.bool false) h83) call fun v_84 h85 =>
arb (.val v_84 h85) call fun v_86 h87 =>
gd (wantB v_86 true) (fun c => arb (.val (t 6) h87) call c) h87 fun v_88 h89 =>
gd (wantB v_86 true) (fun c => arb (.val b_46 h89) call c) h89 fun v_90 h91 =>
gd (wantB v_86 true) (fun c => arb (.call F_attr_Same [v_88, v_90] h91) call c) h91 fun v_92 h93 =>
gd (wantB v_86 true) (fun c => arb (.of (aUn P .not v_92) h93) call c) h93 fun v_94 h95 =>
arb (pkR v_86 v_94 (.bool false) h95) call fun v_96 h97 =>
arb (.val v_96 h97) call fun v_98 h99 =>
k .ret (upd (upd (upd (upd (upd (upd (upd (upd (upd (upd (upd (upd (upd (upd (upd (upd (upd (upd (upd (upd (upd (upd (upd (upd (upd (upd (upd (upd (upd (upd (upd (upd (upd (upd (upd (upd (upd (upd (upd (upd (upd t 69 v_16) 70 v_18) 71 v_20) 72 v_22) 12 k_24) 73 v_26) 74 v_28) 75 v_30) 76 v_32) 77 v_34) 78 v_36) 79 v_38) 80 v_40) 81 v_42) 82 v_44) 13 b_46) 84 v_48) 85 v_50) 86 v_52) 87 v_54) 88 v_56) 89 v_58) 90 v_60) 83 v_62) 91 v_64) 92 v_66) 14 v_68) 15 gone_72) 93 v_74) 94 v_76) 95 v_78) 96 v_80) 97 v_82) 98 v_84) 99 v_86) 100 v_88) 101 v_90) 102 v_92) 103 v_94) 104 v_96) 4 v_98) h99

def J_precentorlaw5_AttrFinds_1 (P : Program) (call : FuncId → List AVal → Heap → Res AVal) (fuel : Nat) (k : Kn (AVal)) (t : T) (h : Heap) : Res (AVal) :=
lt (sqK (J_precentorlaw5_AttrFinds_2 P call fuel k) k) fun k100 =>
arb (.val (t 6) h) call fun v_101 h102 =>
arb (.call F_attr_Get [v_101, (.str (bs [110, 111, 98, 111, 100, 121]))] h102) call fun v_103 h104 =>
arb (.val v_103 h104) call fun v_105 h106 =>
arb (extR v_105 0 h106) call fun v_107 h108 =>
arb (extR v_105 1 h108) call fun v_109 h110 =>
arb (newR [(.int .i64 0), (.int .i64 0), (.flt .f64 0), (.str (bs [])), (.bool false)] h110) call fun v_111 h112 =>
arb (stR 5 h112 v_111 v_107) call fun v_113 h114 =>
arb (.val v_109 h114) call fun ok_115 h116 =>
arb (.val ok_115 h116) call fun v_117 h118 =>
arb (.val v_117 h118) call fun v_119 h120 =>
gd (wantB v_119 false) (fun c => arb (.val (t 6) h120) call c) h120 fun v_121 h122 =>
gd (wantB v_119 false) (fun c => arb (.of (lenL v_121) h122) call c) h122 fun v_123 h124 =>
gd (wantB v_119 false) (fun c => arb (.of (aBin P .eql 3 (.tmp 64) (.const (.int .i64 0)) v_123 (.int .i64 0)) h124) call c) h124 fun v_125 h126 =>
arb (pkR v_119 (.bool true) v_125 h126) call fun v_127 h128 =>
cb v_127 (
arb (.val ok_115 h128) call fun v_129 h130 =>
arb (.of (aUn P .not v_129) h130) call fun v_131 h132 =>
arb (.val v_131 h132) call fun v_133 h134 =>
k100 .ret (upd (upd (upd (upd (upd (upd (upd (upd (upd (upd (upd (upd (upd (upd (upd (upd t 57 v_101) 58 v_103) 56 v_105) 59 v_107) 60 v_109) 10 v_111) 11 ok_115) 61 v_117) 62 v_119) 63 v_121) 64 v_123) 65 v_125) 66 v_127) 67 v_129) 68 v_131) 4 v_133) h134) (
k100 .normal (upd (upd (upd (upd (upd (upd (upd (upd (upd (upd (upd (upd (upd t 57 v_101) 58 v_103) 56 v_105) 59 v_107) 60 v_109) 10 v_111) 11 ok_115) 61 v_117) 62 v_119) 63 v_121) 64 v_123) 65 v_125) 66 v_127) h128)

def J_precentorlaw5_AttrFinds_5 (P : Program) (call : FuncId → List AVal → Heap → Res AVal) (fuel : Nat) (k : Kn (Ex × T)) (t : T) (h : Heap) : Res (Ex × T) :=
arb (.val (t 7) h) call fun v_139 h140 =>
arb (.of (aBin P .add 3 (.tmp 32) (.const (.int .i64 1)) v_139 (.int .i64 1)) h140) call fun v_141 h142 =>
arb (.val v_141 h142) call fun i_143 h144 =>
k .normal (upd (upd (upd t 32 v_139) 33 v_141) 7 i_143) h144

def J_precentorlaw5_AttrFinds_4 (P : Program) (call : FuncId → List AVal → Heap → Res AVal) (fuel : Nat) (k : Kn (Ex × T)) (t : T) (h : Heap) : Res (Ex × T) :=
lt (sqK (J_precentorlaw5_AttrFinds_5 P call fuel k) k) fun k145 =>
lt (blkK 1 k145) fun k146 =>
arb (.val (t 6) h) call fun v_147 h148 =>
arb (.val (t 6) h148) call fun v_149 h150 =>
arb (.val (t 7) h150) call fun v_151 h152 =>
arb (.of (ixsR 6 v_149 v_151) h152) call fun v_153 h154 =>
arb (.of (fadR 0 v_153) h154) call fun v_155 h156 =>
arb (.of (ld1 h156 v_155) h156) call fun v_157 h158 =>
arb (.call F_attr_Get [v_147, v_157] h158) call fun v_159 h160 =>
arb (.val v_159 h160) call fun v_161 h162 =>
arb (extR v_161 0 h162) call fun v_163 h164 =>
arb (extR v_161 1 h164) call fun v_165 h166 =>
arb (newR [(.int .i64 0), (.int .i64 0), (.flt .f64 0), (.str (bs [])), (.bool false)] h166) call fun v_167 h168 =>
arb (stR 5 h168 v_167 v_163) call fun v_169 h170 =>
arb (.val v_165 h170) call fun ok_171 h172 =>
obv (.val ok_171 h172) fun v_173 =>
obv (.of (aUn P .not v_173) h172) fun v_175 =>
obv (.val v_175 h172) fun v_177 =>
gdr (wantB v_177 false) (fun c => obv (.of (ldn 5 h172 v_167) h172) fun v_179 => ifb true <|
c true v_179 h172) h172 fun w181 v_179 h181 =>
gdr (wantB v_177 false) (fun c => obv (.val (t 6) h181) fun v_182 =>
c true v_182 h181) h181 fun w184 v_182 h184 =>
gdr (wantB v_177 false) (fun c => obv (.val (t 7) h184) fun v_185 =>
c true v_185 h184) h184 fun w187 v_185 h187 =>
gdr (wantB v_177 false) (fun c => obv (.of (ixsR 6 v_182 v_185) h187) fun v_188 =>
c true v_188 h187) h187 fun w190 v_188 h190 =>
gdr (wantB v_177 false) (fun c => obv (.of (fadR 1 v_188) h190) fun v_191 =>
c true v_191 h190) h190 fun w193 v_191 h193 =>
gdr (wantB v_177 false) (fun c => obv (.of (ldn 5 h193 v_191) h193) fun v_194 => ifb true <|
c true v_194 h193) h193 fun w196 v_194 h196 =>
gdr (wantB v_177 false) (fun c => arbE (.call F_value_Same [v_179, v_194] h196) call fun v_197 h198 => lt h198 fun g198 => ifb (true && true) <|
c true v_197 g198) h196 fun w199 v_197 h199 =>
gdr (wantB v_177 false) (fun c => obv (.of (aUn P .not v_197) h199) fun v_200 =>
c true v_200 h199) h199 fun w202 v_200 h202 =>
obv (pkR v_177 (.bool true) v_200 h202) fun v_203 =>
cb v_203 (
arb (.val (.bool false) h202) call fun v_205 h206 =>
k146 .ret (upd (upd (upd (upd (upd (upd (upd (upd (upd (upd (upd (upd (upd (upd (upd (upd (upd (upd (upd (upd (upd (upd (upd (upd (upd t 35 v_147) 36 v_149) 37 v_151) 38 v_153) 39 v_155) 40 v_157) 41 v_159) 34 v_161) 42 v_163) 43 v_165) 8 v_167) 9 ok_171) 44 v_173) 45 v_175) 46 v_177) 47 v_179) 48 v_182) 49 v_185) 50 v_188) 51 v_191) 52 v_194) 53 v_197) 54 v_200) 55 v_203) 4 v_205) h206) (
k146 .normal (upd (upd (upd (upd (upd (upd (upd (upd (upd (upd (upd (upd (upd (upd (upd (upd (upd (upd (upd (upd (upd (upd (upd (upd t 35 v_147) 36 v_149) 37 v_151) 38 v_153) 39 v_155) 40 v_157) 41 v_159) 34 v_161) 42 v_163) 43 v_165) 8 v_167) 9 ok_171) 44 v_173) 45 v_175) 46 v_177) 47 v_179) 48 v_182) 49 v_185) 50 v_188) 51 v_191) 52 v_194) 53 v_197) 54 v_200) 55 v_203) h202)

def L_precentorlaw5_AttrFinds_3 (P : Program) (call : FuncId → List AVal → Heap → Res AVal) (fuel : Nat) (t : T) (h : Heap) : Res (Ex × T) :=
lt okK fun k =>
lt (sqK (J_precentorlaw5_AttrFinds_4 P call fuel k) k) fun k207 =>
arb (.val (t 7) h) call fun v_208 h209 =>
arb (.val (t 6) h209) call fun v_210 h211 =>
arb (.of (lenL v_210) h211) call fun v_212 h213 =>
arb (.of (aBin P .lss 3 (.tmp 28) (.tmp 30) v_208 v_212) h213) call fun v_214 h215 =>
cb v_214 (
k207 .normal (upd (upd (upd (upd t 28 v_208) 29 v_210) 30 v_212) 31 v_214) h215) (
k207 (.exit 0) (upd (upd (upd (upd t 28 v_208) 29 v_210) 30 v_212) 31 v_214) h215)

def J_precentorlaw5_AttrFinds_0 (P : Program) (call : FuncId → List AVal → Heap → Res AVal) (fuel : Nat) (k : Kn (AVal)) (t : T) (h : Heap) : Res (AVal) :=
lt (sqK (J_precentorlaw5_AttrFinds_1 P call fuel k) k) fun k135 =>
arb (.val (.int .i64 0) h) call fun i_136 h137 =>
lt (blkK 0 k135) fun k138 =>
(loopN (L_precentorlaw5_AttrFinds_3 P call fuel) fuel (upd t 7 i_136) h137).bind (lpK k138)

def S_precentorlaw5_AttrFinds (P : Program) (call : FuncId → List AVal → Heap → Res AVal) (fuel : Nat) (l_a0 at_a1 : AVal) (h : Heap) : Res AVal :=
lt (retK P [.tmp 4]) fun k =>
arb (.val (.bool false) h) call fun v_0 h1 =>
arb (.val l_a0 h1) call fun v_2 h3 =>
arb (.of (bldR [.nils, (.int .i64 0)] [(0, 1, v_2)]) h3) call fun v_4 h5 =>
arb (boxR v_4 h5) call fun v_6 h7 =>
arb (.val v_6 h7) call fun f_8 h9 =>
arb (.val f_8 h9) call fun v_10 h11 =>
arb (.call F_precentorhand_Feed_Attrs [v_10] h11) call fun v_12 h13 =>
arb (.val v_12 h13) call fun a_14 h15 =>
lt (sqK (J_precentorlaw5_AttrFinds_0 P call fuel k) k) fun k216 =>
arb (.call F_precentorlaw5_known [] h15) call fun v_217 h218 =>
arb (.of (aUn P .not v_217) h218) call fun v_219 h220 =>
arb (.val v_219 h220) call fun v_221 h222 =>
gd (wantB v_221 false) (fun c => arb (.val a_14 h222) call c) h222 fun v_223 h224 =>
gd (wantB v_221 false) (fun c => arb (.call F_attr_Right [v_223] h224) call c) h224 fun v_225 h226 =>
gd (wantB v_221 false) (fun c => arb (.of (aUn P .not v_225) h226) call c) h226 fun v_227 h228 =>
arb (pkR v_221 (.bool true) v_227 h228) call fun v_229 h230 =>
cb v_229 (
arb (.val (.bool false) h230) call fun v_231 h232 =>
k216 .ret (upd (upd (upd (upd (upd (upd (upd (upd (upd (upd (upd (upd (upd (upd (upd (upd (enterT [l_a0, at_a1]) 4 v_0) 16 v_2) 17 v_4) 18 v_6) 5 f_8) 19 v_10) 20 v_12) 6 a_14) 21 v_217) 22 v_219) 23 v_221) 24 v_223) 25 v_225) 26 v_227) 27 v_229) 4 v_231) h232) (
k216 .normal (upd (upd (upd (upd (upd (upd (upd (upd (upd (upd (upd (upd (upd (upd (upd (enterT [l_a0, at_a1]) 4 v_0) 16 v_2) 17 v_4) 18 v_6) 5 f_8) 19 v_10) 20 v_12) 6 a_14) 21 v_217) 22 v_219) 23 v_221) 24 v_223) 25 v_225) 26 v_227) 27 v_229) h230)
theorem E_precentorlaw5_AttrFinds (call : FuncId → List AVal → Heap → Res AVal) (fuel : Nat) (l_a0 at_a1 : AVal) (h : Heap) : bodyR Try.prog call fuel Try.f5 [l_a0, at_a1] h = S_precentorlaw5_AttrFinds Try.prog call fuel l_a0 at_a1 h := by kernel_rfl
theorem R_precentorlaw5_AttrFinds {X : XTab} (l_a0 at_a1 : AVal) {h : Heap} {Q : AVal → Heap → Prop} (hx : X F_precentorlaw5_AttrFinds [l_a0, at_a1] = none) (q : Tells (fun m => S_precentorlaw5_AttrFinds Try.prog (acallX Try.prog X m) m l_a0 at_a1 h) Q) :
    Tells (fun m => acallX Try.prog X m F_precentorlaw5_AttrFinds [l_a0, at_a1] h) Q :=
  Tells.later (q.le fun m => (E_precentorlaw5_AttrFinds (acallX Try.prog X m) m l_a0 at_a1 h) ▸ acallX_le Try.func5 hx m h)

/-! ### precentor/precentorlaw5.AttrOwn -/
def J_precentorlaw5_AttrOwn_1 (P : Program) (call : FuncId → List AVal → Heap → Res AVal) (fuel : Nat) (k : Kn (AVal)) (t : T) (h : Heap) : Res (AVal) :=
arb (.val (t 8) h) call fun v_42 h43 =>
arb (.of (bldR [(.str (bs [])), (.int .i64 0), (.int .i64 0), (.flt .f64 0), (.str (bs [])), (.bool false)] [(0, 1, (.str (bs [109, 111, 114, 101])))]) h43) call fun v_44 h45 =>
arb (bslR 6 [(.str (bs [])), (.int .i64 0), (.int .i64 0), (.flt .f64 0), (.str (bs [])), (.bool false)] 1 h45 [(0, 6, v_44)]) call fun v_46 h47 =>
arb (appR 6 64 h47 v_42 v_46) call fun v_48 h49 =>
arb (.val v_48 h49) call fun c_50 h51 =>
arb (.val (t 7) h51) call fun v_52 h53 =>
arb (.val (t 6) h53) call fun v_54 h55 =>
arb (.of (lenL v_54) h55) call fun v_56 h57 =>
arb (.of (slcR 6 v_52 none (some v_56) none) h57) call fun v_58 h59 =>
arb (.val (t 6) h59) call fun v_60 h61 =>
arb (.call F_attr_Same [v_58, v_60] h61) call fun v_62 h63 =>
arb (.val v_62 h63) call fun v_64 h65 =>
gd (wantB v_64 true) (fun c => arb (.val (t 7) h65) call c) h65 fun v_66 h67 =>
gd (wantB v_64 true) (fun c => arb (.val (t 6) h67) call c) h67 fun v_68 h69 =>
gd (wantB v_64 true) (fun c => arb (.of (lenL v_68) h69) call c) h69 fun v_70 h71 =>
gd (wantB v_64 true) (fun c => arb (.of (ixsR 6 v_66 v_70) h71) call c) h71 fun v_72 h73 =>
gd (wantB v_64 true) (fun c => arb (.of (fadR 0 v_72) h73) call c) h73 fun v_74 h75 =>
gd (wantB v_64 true) (fun c => arb (.of (ld1 h75 v_74) h75) call c) h75 fun v_76 h77 =>
gd (wantB v_64 true) (fun c => arb (.of (aBin P .eql 9 (.tmp 60) (.const (.string (bs [98, 101, 104, 105, 110, 100]))) v_76 (.str (bs [98, 101, 104, 105, 110, 100]))) h77) call c) h77 fun v_78 h79 =>
arb (pkR v_64 v_78 (.bool false) h79) call fun v_80 h81 =>
arb (.val v_80 h81) call fun v_82 h83 =>
gd (wantB v_82 true) (fun c => arb (.val c_50 h83) call c) h83 fun v_84 h85 =>
gd (wantB v_82 true) (fun c => arb (.of (lenL v_84) h85) call c) h85 fun v_86 h87 =>
gd (wantB v_82 true) (fun c => arb (.val (t 6) h87) call c) h87 fun v_88 h89 =>
gd (wantB v_82 true) (fun c => arb (.of (lenL v_88) h89) call c) h89 fun v_90 h91 =>
gd (wantB v_82 true) (fun c => arb (.of (aBin P .add 3 (.tmp 67) (.const (.int .i64 1)) v_90 (.int .i64 1)) h91) call c) h91 fun v_92 h93 =>
gd (wantB v_82 true) (fun c => arb (.of (aBin P .eql 3 (.tmp 65) (.tmp 68) v_86 v_92) h93) call c) h93 fun v_94 h95 =>
arb (pkR v_82 v_94 (.bool false) h95) call fun v_96 h97 =>
arb (.val v_96 h97) call fun v_98 h99 =>
k .ret (upd (upd (upd (upd (upd (upd (upd (upd (upd (upd (upd (upd (upd (upd (upd (upd (upd (upd (upd (upd (upd (upd (upd (upd (upd (upd (upd (upd (upd t 44 v_42) 45 v_44) 46 v_46) 47 v_48) 9 c_50) 48 v_52) 49 v_54) 50 v_56) 51 v_58) 52 v_60) 53 v_62) 54 v_64) 55 v_66) 56 v_68) 57 v_70) 58 v_72) 59 v_74) 60 v_76) 61 v_78) 62 v_80) 63 v_82) 64 v_84) 65 v_86) 66 v_88) 67 v_90) 68 v_92) 69 v_94) 70 v_96) 4 v_98) h99

def J_precentorlaw5_AttrOwn_0 (P : Program) (call : FuncId → List AVal → Heap → Res AVal) (fuel : Nat) (k : Kn (AVal)) (t : T) (h : Heap) : Res (AVal) :=
lt (sqK (J_precentorlaw5_AttrOwn_1 P call fuel k) k) fun k100 =>
arb (.val (t 8) h) call fun v_101 h102 =>
arb (.of (lenL v_101) h102) call fun v_103 h104 =>
arb (.of (aBin P .gtr 3 (.tmp 35) (.const (.int .i64 0)) v_103 (.int .i64 0)) h104) call fun v_105 h106 =>
cb v_105 (
arb (.val (t 8) h106) call fun v_107 h108 =>
arb (.val (t 1) h108) call fun v_109 h110 =>
arb (.val (t 8) h110) call fun v_111 h112 =>
arb (.of (lenL v_111) h112) call fun v_113 h114 =>
arb (.call F_precentorhand_Pick [v_109, v_113] h114) call fun v_115 h116 =>
arb (.of (ixsR 6 v_107 v_115) h116) call fun v_117 h118 =>
arb (.of (fadR 0 v_117) h118) call fun v_119 h120 =>
arb (stR 1 h120 v_119 (.str (bs [116, 117, 114, 110, 101, 100]))) call fun v_121 h122 =>
k100 .normal (upd (upd (upd (upd (upd (upd (upd (upd (upd (upd t 34 v_101) 35 v_103) 36 v_105) 37 v_107) 38 v_109) 39 v_111) 40 v_113) 41 v_115) 42 v_117) 43 v_119) h122) (
k100 .normal (upd (upd (upd t 34 v_101) 35 v_103) 36 v_105) h106)

def S_precentorlaw5_AttrOwn (P : Program) (call : FuncId → List AVal → Heap → Res AVal) (fuel : Nat) (l_a0 at_a1 : AVal) (h : Heap) : Res AVal :=
lt (retK P [.tmp 4]) fun k =>
arb (.val (.bool false) h) call fun v_0 h1 =>
arb (.val l_a0 h1) call fun v_2 h3 =>
arb (.of (bldR [.nils, (.int .i64 0)] [(0, 1, v_2)]) h3) call fun v_4 h5 =>
arb (boxR v_4 h5) call fun v_6 h7 =>
arb (.val v_6 h7) call fun f_8 h9 =>
arb (.val f_8 h9) call fun v_10 h11 =>
arb (.call F_precentorhand_Feed_Attrs [v_10] h11) call fun v_12 h13 =>
arb (.val v_12 h13) call fun a_14 h15 =>
arb (bslR 6 [] 0 h15 []) call fun v_16 h17 =>
arb (.val a_14 h17) call fun v_18 h19 =>
arb (appR 6 64 h19 v_16 v_18) call fun v_20 h21 =>
arb (.of (bldR [(.str (bs [])), (.int .i64 0), (.int .i64 0), (.flt .f64 0), (.str (bs [])), (.bool false)] [(0, 1, (.str (bs [98, 101, 104, 105, 110, 100])))]) h21) call fun v_22 h23 =>
arb (bslR 6 [(.str (bs [])), (.int .i64 0), (.int .i64 0), (.flt .f64 0), (.str (bs [])), (.bool false)] 1 h23 [(0, 6, v_22)]) call fun v_24 h25 =>
arb (appR 6 64 h25 v_20 v_24) call fun v_26 h27 =>
arb (.val v_26 h27) call fun full_28 h29 =>
arb (.val full_28 h29) call fun v_30 h31 =>
arb (.val a_14 h31) call fun v_32 h33 =>
arb (.of (lenL v_32) h33) call fun v_34 h35 =>
arb (.of (slcR 6 v_30 none (some v_34) none) h35) call fun v_36 h37 =>
arb (.call F_attr_Copy [v_36] h37) call fun v_38 h39 =>
arb (.val v_38 h39) call fun b_40 h41 =>
lt (sqK (J_precentorlaw5_AttrOwn_0 P call fuel k) k) fun k123 =>
arb (.call F_precentorlaw5_known [] h41) call fun v_124 h125 =>
arb (.of (aUn P .not v_124) h125) call fun v_126 h127 =>
arb (.val v_126 h127) call fun v_128 h129 =>
gd (wantB v_128 false) (fun c => arb (.val a_14 h129) call c) h129 fun v_130 h131 =>
gd (wantB v_128 false) (fun c => arb (.val b_40 h131) call c) h131 fun v_132 h133 =>
gd (wantB v_128 false) (fun c => arb (.call F_attr_Same [v_130, v_132] h133) call c) h133 fun v_134 h135 =>
gd (wantB v_128 false) (fun c => arb (.of (aUn P .not v_134) h135) call c) h135 fun v_136 h137 =>
arb (pkR v_128 (.bool true) v_136 h137) call fun v_138 h139 =>
cb v_138 (
arb (.val (.bool false) h139) call fun v_140 h141 =>
k123 .ret (upd (upd (upd (upd (upd (upd (upd (upd (upd (upd (upd (upd (upd (upd (upd (upd (upd (upd (upd (upd (upd (upd (upd (upd (upd (upd (upd (upd (upd (upd (enterT [l_a0, at_a1]) 4 v_0) 10 v_2) 11 v_4) 12 v_6) 5 f_8) 13 v_10) 14 v_12) 6 a_14) 15 v_16) 16 v_18) 17 v_20) 18 v_22) 19 v_24) 20 v_26) 7 full_28) 21 v_30) 22 v_32) 23 v_34) 24 v_36) 25 v_38) 8 b_40) 26 v_124) 27 v_126) 28 v_128) 29 v_130) 30 v_132) 31 v_134) 32 v_136) 33 v_138) 4 v_140) h141) (
k123 .normal (upd (upd (upd (upd (upd (upd (upd (upd (upd (upd (upd (upd (upd (upd (upd (upd (upd (upd (upd (upd (upd (upd (upd (upd (upd (upd (upd (upd (upd (enterT [l_a0, at_a1]) 4 v_0) 10 v_2) 11 v_4) 12 v_6) 5 f_8) 13 v_10) 14 v_12) 6 a_14) 15 v_16) 16 v_18) 17 v_20) 18 v_22) 19 v_24) 20 v_26) 7 full_28) 21 v_30) 22 v_32) 23 v_34) 24 v_36) 25 v_38) 8 b_40) 26 v_124) 27 v_126) 28 v_128) 29 v_130) 30 v_132) 31 v_134) 32 v_136) 33 v_138) h139)
theorem E_precentorlaw5_AttrOwn (call : FuncId → List AVal → Heap → Res AVal) (fuel : Nat) (l_a0 at_a1 : AVal) (h : Heap) : bodyR Try.prog call fuel Try.f6 [l_a0, at_a1] h = S_precentorlaw5_AttrOwn Try.prog call fuel l_a0 at_a1 h := by kernel_rfl
theorem R_precentorlaw5_AttrOwn {X : XTab} (l_a0 at_a1 : AVal) {h : Heap} {Q : AVal → Heap → Prop} (hx : X F_precentorlaw5_AttrOwn [l_a0, at_a1] = none) (q : Tells (fun m => S_precentorlaw5_AttrOwn Try.prog (acallX Try.prog X m) m l_a0 at_a1 h) Q) :
    Tells (fun m => acallX Try.prog X m F_precentorlaw5_AttrOwn [l_a0, at_a1] h) Q :=
  Tells.later (q.le fun m => (E_precentorlaw5_AttrOwn (acallX Try.prog X m) m l_a0 at_a1 h) ▸ acallX_le Try.func6 hx m h)

/-! ### precentor/precentorlaw5.attrs -/
def J_precentorlaw5_attrs_1 (P : Program) (call : FuncId → List AVal → Heap → Res AVal) (fuel : Nat) (k : Kn (AVal)) (t : T) (h : Heap) : Res (AVal) :=
arb (.val (t 7) h) call fun v_8 h9 =>
arb (.val v_8 h9) call fun v_10 h11 =>
k .ret (upd (upd t 70 v_8) 6 v_10) h11

def J_precentorlaw5_attrs_0 (P : Program) (call : FuncId → List AVal → Heap → Res AVal) (fuel : Nat) (k : Kn (AVal)) (t : T) (h : Heap) : Res (AVal) :=
arb (.val (t 1) h) call fun v_2 h3 =>
arb (.call F_precentorhand_Feed_Attrs [v_2] h3) call fun v_4 h5 =>
arb (.val v_4 h5) call fun l_6 h7 =>
lt (sqK (J_precentorlaw5_attrs_1 P call fuel k) k) fun k12 =>
arb (.val l_6 h7) call fun v_13 h14 =>
arb (.of (lenL v_13) h14) call fun v_15 h16 =>
arb (.of (aBin P .gtr 3 (.tmp 20) (.const (.int .i64 0)) v_15 (.int .i64 0)) h16) call fun v_17 h18 =>
arb (.val v_17 h18) call fun v_19 h20 =>
gd (wantB v_19 true) (fun c => arb (.val (t 1) h20) call c) h20 fun v_21 h22 =>
gd (wantB v_19 true) (fun c => arb (.call F_precentorhand_Feed_Next [v_21, (.int .i64 3)] h22) call c) h22 fun v_23 h24 =>
gd (wantB v_19 true) (fun c => arb (.of (aBin P .eql 3 (.tmp 24) (.const (.int .i64 0)) v_23 (.int .i64 0)) h24) call c) h24 fun v_25 h26 =>
arb (pkR v_19 v_25 (.bool false) h26) call fun v_27 h28 =>
cb v_27 (
arb (.val (t 1) h28) call fun v_29 h30 =>
arb (.val l_6 h30) call fun v_31 h32 =>
arb (.of (lenL v_31) h32) call fun v_33 h34 =>
arb (.call F_precentorhand_Feed_Next [v_29, v_33] h34) call fun v_35 h36 =>
arb (.val v_35 h36) call fun k_37 h38 =>
arb (.val (t 1) h38) call fun v_39 h40 =>
arb (.call F_precentorhand_Feed_Next [v_39, (.int .i64 4)] h40) call fun v_41 h42 =>
lt (blkK 0 k12) fun k43 =>
arb (.of (aBin P .eql 3 (.tmp 32) (.const (.int .i64 0)) v_41 (.int .i64 0)) h42) call fun v_44 h45 =>
arb (.val v_44 h45) call fun v_46 h47 =>
cb v_46 (
arb (.val l_6 h47) call fun v_48 h49 =>
arb (.val k_37 h49) call fun v_50 h51 =>
arb (.val (t 2) h51) call fun v_52 h53 =>
arb (.of (ixsR 6 v_48 v_50) h53) call fun v_54 h55 =>
arb (.of (fadR 0 v_54) h55) call fun v_56 h57 =>
arb (stR 1 h57 v_56 v_52) call fun v_58 h59 =>
k43 .normal (upd (upd (upd (upd (upd (upd (upd (upd (upd (upd (upd (upd (upd (upd (upd (upd (upd (upd (upd (upd (upd (upd (upd (upd (upd t 17 v_2) 18 v_4) 7 l_6) 19 v_13) 20 v_15) 21 v_17) 22 v_19) 23 v_21) 24 v_23) 25 v_25) 26 v_27) 27 v_29) 28 v_31) 29 v_33) 30 v_35) 8 k_37) 31 v_39) 32 v_41) 41 v_44) 40 v_46) 42 v_48) 43 v_50) 44 v_52) 45 v_54) 46 v_56) h59) (
arb (.of (aBin P .eql 3 (.tmp 32) (.const (.int .i64 1)) v_41 (.int .i64 1)) h47) call fun v_60 h61 =>
arb (.val v_60 h61) call fun v_62 h63 =>
cb v_62 (
arb (.val l_6 h63) call fun v_64 h65 =>
arb (.val k_37 h65) call fun v_66 h67 =>
arb (.val l_6 h67) call fun v_68 h69 =>
arb (.val k_37 h69) call fun v_70 h71 =>
arb (.of (ixsR 6 v_68 v_70) h71) call fun v_72 h73 =>
arb (.of (fadR 1 v_72) h73) call fun v_74 h75 =>
arb (.of (fadR 4 v_74) h75) call fun v_76 h77 =>
arb (.of (ld1 h77 v_76) h77) call fun v_78 h79 =>
arb (.of (aUn P .not v_78) h79) call fun v_80 h81 =>
arb (.of (ixsR 6 v_64 v_66) h81) call fun v_82 h83 =>
arb (.of (fadR 1 v_82) h83) call fun v_84 h85 =>
arb (.of (fadR 4 v_84) h85) call fun v_86 h87 =>
arb (stR 1 h87 v_86 v_80) call fun v_88 h89 =>
k43 .normal (upd (upd (upd (upd (upd (upd (upd (upd (upd (upd (upd (upd (upd (upd (upd (upd (upd (upd (upd (upd (upd (upd (upd (upd (upd (upd (upd (upd (upd (upd (upd (upd (upd (upd t 17 v_2) 18 v_4) 7 l_6) 19 v_13) 20 v_15) 21 v_17) 22 v_19) 23 v_21) 24 v_23) 25 v_25) 26 v_27) 27 v_29) 28 v_31) 29 v_33) 30 v_35) 8 k_37) 31 v_39) 32 v_41) 41 v_44) 40 v_46) 48 v_60) 47 v_62) 49 v_64) 50 v_66) 51 v_68) 52 v_70) 53 v_72) 54 v_74) 55 v_76) 56 v_78) 57 v_80) 58 v_82) 59 v_84) 60 v_86) h89) (
arb (.of (aBin P .eql 3 (.tmp 32) (.const (.int .i64 2)) v_41 (.int .i64 2)) h63) call fun v_90 h91 =>
arb (.val v_90 h91) call fun v_92 h93 =>
cb v_92 (
arb (.val l_6 h93) call fun v_94 h95 =>
arb (.val l_6 h95) call fun v_96 h97 =>
arb (.val k_37 h97) call fun v_98 h99 =>
arb (.of (ixsR 6 v_96 v_98) h99) call fun v_100 h101 =>
arb (.of (ldn 6 h101 v_100) h101) call fun v_102 h103 =>
arb (bslR 6 [(.str (bs [])), (.int .i64 0), (.int .i64 0), (.flt .f64 0), (.str (bs [])), (.bool false)] 1 h103 [(0, 6, v_102)]) call fun v_104 h105 =>
arb (appR 6 64 h105 v_94 v_104) call fun v_106 h107 =>
arb (.val v_106 h107) call fun l_108 h109 =>
k43 .normal (upd (upd (upd (upd (upd (upd (upd (upd (upd (upd (upd (upd (upd (upd (upd (upd (upd (upd (upd (upd (upd (upd (upd (upd (upd (upd (upd (upd (upd (upd (upd (upd t 17 v_2) 18 v_4) 7 l_6) 19 v_13) 20 v_15) 21 v_17) 22 v_19) 23 v_21) 24 v_23) 25 v_25) 26 v_27) 27 v_29) 28 v_31) 29 v_33) 30 v_35) 8 k_37) 31 v_39) 32 v_41) 41 v_44) 40 v_46) 48 v_60) 47 v_62) 62 v_90) 61 v_92) 63 v_94) 64 v_96) 65 v_98) 66 v_100) 67 v_102) 68 v_104) 69 v_106) 7 l_108) h109) (
arb (.val l_6 h93) call fun v_110 h111 =>
arb (.val k_37 h111) call fun v_112 h113 =>
arb (.val (t 1) h113) call fun v_114 h115 =>
arb (.call F_precentorhand_Feed_Next [v_114, (.int .i64 6)] h115) call fun v_116 h117 =>
arb (.of (ixsR 6 v_110 v_112) h117) call fun v_118 h119 =>
arb (.of (fadR 1 v_118) h119) call fun v_120 h121 =>
arb (.of (fadR 0 v_120) h121) call fun v_122 h123 =>
arb (stR 1 h123 v_122 v_116) call fun v_124 h125 =>
k43 .normal (upd (upd (upd (upd (upd (upd (upd (upd (upd (upd (upd (upd (upd (upd (upd (upd (upd (upd (upd (upd (upd (upd (upd (upd (upd (upd (upd (upd (upd (upd (upd t 17 v_2) 18 v_4) 7 l_6) 19 v_13) 20 v_15) 21 v_17) 22 v_19) 23 v_21) 24 v_23) 25 v_25) 26 v_27) 27 v_29) 28 v_31) 29 v_33) 30 v_35) 8 k_37) 31 v_39) 32 v_41) 41 v_44) 40 v_46) 48 v_60) 47 v_62) 62 v_90) 61 v_92) 33 v_110) 34 v_112) 35 v_114) 36 v_116) 37 v_118) 38 v_120) 39 v_122) h125)))) (
k12 .normal (upd (upd (upd (upd (upd (upd (upd (upd (upd (upd (upd t 17 v_2) 18 v_4) 7 l_6) 19 v_13) 20 v_15) 21 v_17) 22 v_19) 23 v_21) 24 v_23) 25 v_25) 26 v_27) h28)

def S_precentorlaw5_attrs (P : Program) (call : FuncId → List AVal → Heap → Res AVal) (fuel : Nat) (raw_a0 f_a1 name_a2 : AVal) (h : Heap) : Res AVal :=
lt (retK P [.tmp 6]) fun k =>
arb (.val .nils h) call fun v_0 h1 =>
lt (sqK (J_precentorlaw5_attrs_0 P call fuel k) k) fun k126 =>
arb (.val f_a1 h1) call fun v_127 h128 =>
arb (.call F_precentorhand_Feed_Next [v_127, (.int .i64 3)] h128) call fun v_129 h130 =>
arb (.of (aBin P .eql 3 (.tmp 10) (.const (.int .i64 0)) v_129 (.int .i64 0)) h130) call fun v_131 h132 =>
cb v_131 (
arb (.val raw_a0 h132) call fun v_133 h134 =>
arb (.val raw_a0 h134) call fun v_135 h136 =>
arb (.of (lenL v_135) h136) call fun v_137 h138 =>
arb (.of (aPureB P (Builtin.min_ #[3, 3] 3) [v_137, (.int .i64 8)]) h138) call fun v_139 h140 =>
arb (.of (slcR 6 v_133 none (some v_139) none) h140) call fun v_141 h142 =>
arb (.val v_141 h142) call fun v_143 h144 =>
k126 .ret (upd (upd (upd (upd (upd (upd (upd (upd (upd (upd (enterT [raw_a0, f_a1, name_a2]) 6 v_0) 9 v_127) 10 v_129) 11 v_131) 12 v_133) 13 v_135) 14 v_137) 15 v_139) 16 v_141) 6 v_143) h144) (
k126 .normal (upd (upd (upd (upd (enterT [raw_a0, f_a1, name_a2]) 6 v_0) 9 v_127) 10 v_129) 11 v_131) h132)
theorem E_precentorlaw5_attrs (call : FuncId → List AVal → Heap → Res AVal) (fuel : Nat) (raw_a0 f_a1 name_a2 : AVal) (h : Heap) : bodyR Try.prog call fuel Try.f14 [raw_a0, f_a1, name_a2] h = S_precentorlaw5_attrs Try.prog call fuel raw_a0 f_a1 name_a2 h := by kernel_rfl
theorem R_precentorlaw5_attrs {X : XTab} (raw_a0 f_a1 name_a2 : AVal) {h : Heap} {Q : AVal → Heap → Prop} (hx : X F_precentorlaw5_attrs [raw_a0, f_a1, name_a2] = none) (q : Tells (fun m => S_precentorlaw5_attrs Try.prog (acallX Try.prog X m) m raw_a0 f_a1 name_a2 h) Q) :
    Tells (fun m => acallX Try.prog X m F_precentorlaw5_attrs [raw_a0, f_a1, name_a2] h) Q :=
  Tells.later (q.le fun m => (E_precentorlaw5_attrs (acallX Try.prog X m) m raw_a0 f_a1 name_a2 h) ▸ acallX_le Try.func14 hx m h)

/-! ### precentor/precentorlaw5.known -/

def S_precentorlaw5_known (P : Program) (call : FuncId → List AVal → Heap → Res AVal) (fuel : Nat) (h : Heap) : Res AVal :=
lt (retK P [.tmp 0]) fun k =>
arb (.val (.bool false) h) call fun v_0 h1 =>
arb (.call F_precentorlaw5_AttrKnown [] h1) call fun v_2 h3 =>
arb (.val v_2 h3) call fun v_4 h5 =>
k .ret (upd (upd (upd (enterT []) 0 v_0) 1 v_2) 0 v_4) h5
theorem E_precentorlaw5_known (call : FuncId → List AVal → Heap → Res AVal) (fuel : Nat) (h : Heap) : bodyR Try.prog call fuel Try.f19 [] h = S_precentorlaw5_known Try.prog call fuel  h := by kernel_rfl
theorem R_precentorlaw5_known {X : XTab} {h : Heap} {Q : AVal → Heap → Prop} (hx : X F_precentorlaw5_known [] = none) (q : Tells (fun m => S_precentorlaw5_known Try.prog (acallX Try.prog X m) m  h) Q) :
    Tells (fun m => acallX Try.prog X m F_precentorlaw5_known [] h) Q :=
  Tells.later (q.le fun m => (E_precentorlaw5_known (acallX Try.prog X m) m  h) ▸ acallX_le Try.func19 hx m h)


end Go.Proofs.Ytfbipojncmkckaa
