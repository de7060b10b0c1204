/-
  Functions of precentorref14 in the form of YtbkfamdkdjajjaaABS (printed by a program of ours, gen.lean).
-/
import Derived.Test.YtbkfamdkdjajjaaSIds
set_option linter.unusedVariables false
namespace Go.Proofs.Ytbkfamdkdjajjaa
open Go.Ab
/-! ### precentor/precentorref14.NewSeq -/
def J_precentorref14_NewSeq_0 (P : Program) (call : FuncId → List AVal → Heap → Res AVal) (fuel : Nat) (k : Kn (AVal)) (t : T) (h : Heap) : Res (AVal) :=
arb (.val (t 5) h) call fun v_8 h9 =>
arb (.val v_8 h9) call fun v_10 h11 =>
k .ret (upd (upd t 33 v_8) 4 v_10) h11

def J_precentorref14_NewSeq_3 (P : Program) (call : FuncId → List AVal → Heap → Res AVal) (fuel : Nat) (k : Kn (Ex × T)) (t : T) (h : Heap) : Res (Ex × T) :=
arb (.val (t 6) h) call fun v_16 h17 =>
arb (.of (aBin P .add 3 (.tmp 14) (.const (.int .i64 1)) v_16 (.int .i64 1)) h17) call fun v_18 h19 =>
arb (.val v_18 h19) call fun i_20 h21 =>
k .normal (upd (upd (upd t 14 v_16) 15 v_18) 6 i_20) h21

def J_precentorref14_NewSeq_4 (P : Program) (call : FuncId → List AVal → Heap → Res AVal) (fuel : Nat) (k : Kn (Ex × T)) (t : T) (h : Heap) : Res (Ex × T) :=
arb (.val (t 5) h) call fun v_26 h27 =>
arb (.val (t 5) h27) call fun v_28 h29 =>
arb (nckR v_28 h29) call fun v_30 h31 =>
arb (.of (fadR 0 v_30) h31) call fun v_32 h33 =>
arb (.of (ld1 h33 v_32) h33) call fun v_34 h35 =>
arb (.val (t 7) h35) call fun v_36 h37 =>
arb (bslR 1 [(.int .i64 0)] 1 h37 [(0, 1, v_36)]) call fun v_38 h39 =>
arb (appR 1 8 h39 v_34 v_38) call fun v_40 h41 =>
arb (nckR v_26 h41) call fun v_42 h43 =>
arb (.of (fadR 0 v_42) h43) call fun v_44 h45 =>
arb (stR 1 h45 v_44 v_40) call fun v_46 h47 =>
k .normal (upd (upd (upd (upd (upd (upd (upd (upd (upd (upd t 23 v_26) 24 v_28) 25 v_30) 26 v_32) 27 v_34) 28 v_36) 29 v_38) 30 v_40) 31 v_42) 32 v_44) h47

def J_precentorref14_NewSeq_2 (P : Program) (call : FuncId → List AVal → Heap → Res AVal) (fuel : Nat) (k : Kn (Ex × T)) (t : T) (h : Heap) : Res (Ex × T) :=
lt (sqK (J_precentorref14_NewSeq_3 P call fuel k) k) fun k22 =>
lt (blkK 1 k22) fun k23 =>
arb (.val (.int .i64 (-1)) h) call fun n_24 h25 =>
lt (sqK (J_precentorref14_NewSeq_4 P call fuel k23) k23) fun k48 =>
arb (.val (t 0) h25) call fun v_49 h50 =>
arb (.val (t 6) h50) call fun v_51 h52 =>
arb (.of (ixsR 3 v_49 v_51) h52) call fun v_53 h54 =>
arb (.of (fadR 2 v_53) h54) call fun v_55 h56 =>
arb (.of (ld1 h56 v_55) h56) call fun v_57 h58 =>
arb (.val (t 1) h58) call fun v_59 h60 =>
arb (.of (aBin P .eql 3 (.tmp 20) (.tmp 21) v_57 v_59) h60) call fun v_61 h62 =>
cb v_61 (
arb (.val (.int .i64 0) h62) call fun n_63 h64 =>
k48 .normal (upd (upd (upd (upd (upd (upd (upd (upd (upd t 7 n_24) 16 v_49) 17 v_51) 18 v_53) 19 v_55) 20 v_57) 21 v_59) 22 v_61) 7 n_63) h64) (
k48 .normal (upd (upd (upd (upd (upd (upd (upd (upd t 7 n_24) 16 v_49) 17 v_51) 18 v_53) 19 v_55) 20 v_57) 21 v_59) 22 v_61) h62)

def L_precentorref14_NewSeq_1 (P : Program) (call : FuncId → List AVal → Heap → Res AVal) (fuel : Nat) (t : T) (h : Heap) : Res (Ex × T) :=
lt okK fun k =>
lt (sqK (J_precentorref14_NewSeq_2 P call fuel k) k) fun k65 =>
arb (.val (t 6) h) call fun v_66 h67 =>
arb (.val (t 0) h67) call fun v_68 h69 =>
arb (.of (lenL v_68) h69) call fun v_70 h71 =>
arb (.of (aBin P .lss 3 (.tmp 10) (.tmp 12) v_66 v_70) h71) call fun v_72 h73 =>
cb v_72 (
k65 .normal (upd (upd (upd (upd t 10 v_66) 11 v_68) 12 v_70) 13 v_72) h73) (
k65 (.exit 0) (upd (upd (upd (upd t 10 v_66) 11 v_68) 12 v_70) 13 v_72) h73)

def S_precentorref14_NewSeq (P : Program) (call : FuncId → List AVal → Heap → Res AVal) (fuel : Nat) (c_a0 broker_a1 : AVal) (h : Heap) : Res AVal :=
lt (retK P [.tmp 4]) fun k =>
arb (.val .nilp h) call fun v_0 h1 =>
arb (.of (bldR [.nils] []) h1) call fun v_2 h3 =>
arb (boxR v_2 h3) call fun v_4 h5 =>
arb (.val v_4 h5) call fun s_6 h7 =>
lt (sqK (J_precentorref14_NewSeq_0 P call fuel k) k) fun k12 =>
arb (.val (.int .i64 0) h7) call fun i_13 h14 =>
lt (blkK 0 k12) fun k15 =>
(loopN (L_precentorref14_NewSeq_1 P call fuel) fuel (upd (upd (upd (upd (upd (enterT [c_a0, broker_a1]) 4 v_0) 8 v_2) 9 v_4) 5 s_6) 6 i_13) h14).bind (lpK k15)
theorem E_precentorref14_NewSeq (call : FuncId → List AVal → Heap → Res AVal) (fuel : Nat) (c_a0 broker_a1 : AVal) (h : Heap) : bodyR Try.prog call fuel Try.f13 [c_a0, broker_a1] h = S_precentorref14_NewSeq Try.prog call fuel c_a0 broker_a1 h := by kernel_rfl
theorem R_precentorref14_NewSeq {X : XTab} (c_a0 broker_a1 : AVal) {h : Heap} {Q : AVal → Heap → Prop} (hx : X F_precentorref14_NewSeq [c_a0, broker_a1] = none) (q : Tells (fun m => S_precentorref14_NewSeq Try.prog (acallX Try.prog X m) m c_a0 broker_a1 h) Q) :
    Tells (fun m => acallX Try.prog X m F_precentorref14_NewSeq [c_a0, broker_a1] h) Q :=
  Tells.later (q.le fun m => (E_precentorref14_NewSeq (acallX Try.prog X m) m c_a0 broker_a1 h) ▸ acallX_le Try.func13 hx m h)

/-! ### (*precentor/precentorref14.Seq).Pass -/
def J_precentorref14_Seq_Pass_1 (P : Program) (call : FuncId → List AVal → Heap → Res AVal) (fuel : Nat) (k : Kn (AVal)) (t : T) (h : Heap) : Res (AVal) :=
obv (.of (ldn 7 h (t 4)) h) fun v_20 => ifb true <|
obv (.val (t 2) h) fun v_22 =>
obv (.of (lenL v_22) h) fun v_24 =>
obv (.of (aBin P .eql 3 (.tmp 89) (.const (.int .i64 0)) v_24 (.int .i64 0)) h) fun v_26 =>
obv (.val v_26 h) fun v_28 =>
gdr (wantB v_28 false) (fun c => obv (.of (fadR 4 (t 4)) h) fun v_30 =>
c true v_30 h) h fun w32 v_30 h32 =>
gdr (wantB v_28 false) (fun c => obv (.of (ld1 h32 v_30) h32) fun v_33 => ifb true <|
c true v_33 h32) h32 fun w35 v_33 h35 =>
gdr (wantB v_28 false) (fun c => obv (.val (t 8) h35) fun v_36 =>
c true v_36 h35) h35 fun w38 v_36 h38 =>
gdr (wantB v_28 false) (fun c => obv (.of (aBin P .gtr 3 (.tmp 93) (.tmp 94) v_33 v_36) h38) fun v_39 =>
c true v_39 h38) h38 fun w41 v_39 h41 =>
obv (pkR v_28 (.bool true) v_39 h41) fun v_42 =>
arbE (stR 7 h41 (t 6) v_20) call fun v_44 h45 => lt h45 fun g45 => ifb (true && ((!w35 || isV v_33 (arVal (.of (ld1 g45 v_30) g45))) && true)) <|
obv (.val v_42 g45) fun v_46 =>
k .ret (upd (upd (upd (upd (upd (upd (upd (upd (upd (upd (upd t 87 v_20) 88 v_22) 89 v_24) 90 v_26) 91 v_28) 92 v_30) 93 v_33) 94 v_36) 95 v_39) 96 v_42) 7 v_46) g45

def J_precentorref14_Seq_Pass_4 (P : Program) (call : FuncId → List AVal → Heap → Res AVal) (fuel : Nat) (k : Kn (Ex × T)) (t : T) (h : Heap) : Res (Ex × T) :=
arb (.of (fadR 4 (t 4)) h) call fun v_51 h52 =>
arb (.of (ld1 h52 v_51) h52) call fun v_53 h54 =>
arb (.of (aBin P .add 3 (.tmp 84) (.const (.int .i64 1)) v_53 (.int .i64 1)) h54) call fun v_55 h56 =>
arb (.of (fadR 4 (t 4)) h56) call fun v_57 h58 =>
arb (stR 1 h58 v_57 v_55) call fun v_59 h60 =>
k .normal (upd (upd (upd (upd t 83 v_51) 84 v_53) 85 v_55) 86 v_57) h60

def J_precentorref14_Seq_Pass_3 (P : Program) (call : FuncId → List AVal → Heap → Res AVal) (fuel : Nat) (k : Kn (Ex × T)) (t : T) (h : Heap) : Res (Ex × T) :=
lt (blkK 1 k) fun k50 =>
lt (sqK (J_precentorref14_Seq_Pass_4 P call fuel k50) k50) fun k61 =>
arb (.val (t 2) h) call fun v_62 h63 =>
arb (.of (fadR 4 (t 4)) h63) call fun v_64 h65 =>
arb (.of (ld1 h65 v_64) h65) call fun v_66 h67 =>
arb (.call F_precentorref9_In [v_62, v_66] h67) call fun v_68 h69 =>
cb v_68 (
obv (.val (t 0) h69) fun v_70 =>
obv (nckR v_70 h69) fun v_72 =>
obv (.of (fadR 0 v_72) h69) fun v_74 =>
obv (.of (ld1 h69 v_74) h69) fun v_76 => ifb true <|
obv (.of (fadR 4 (t 4)) h69) fun v_78 =>
obv (.of (ld1 h69 v_78) h69) fun v_80 => ifb true <|
obv (.of (ixsR 1 v_76 v_80) h69) fun v_82 =>
obv (.of (ld1 h69 v_82) h69) fun v_84 => ifb true <|
obv (.of (aBin P .add 3 (.tmp 64) (.const (.int .i64 1)) v_84 (.int .i64 1)) h69) fun v_86 =>
obv (.of (ixsR 1 v_76 v_80) h69) fun v_88 =>
arbE (stR 1 h69 v_88 v_86) call fun v_90 h91 => lt h91 fun g91 => ifb (true && true) <|
obv (.of (fadR 6 (t 4)) g91) fun v_92 =>
obv (.of (ld1 g91 v_92) g91) fun v_94 => ifb true <|
obv (.of (fadR 4 (t 4)) g91) fun v_96 =>
obv (.of (ld1 g91 v_96) g91) fun v_98 => ifb true <|
obv (.val (t 0) g91) fun v_100 =>
obv (nckR v_100 g91) fun v_102 =>
obv (.of (fadR 0 v_102) g91) fun v_104 =>
obv (.of (ld1 g91 v_104) g91) fun v_106 => ifb true <|
obv (.of (fadR 4 (t 4)) g91) fun v_108 =>
obv (.of (ld1 g91 v_108) g91) fun v_110 => ifb true <|
obv (.of (ixsR 1 v_106 v_110) g91) fun v_112 =>
obv (.of (ld1 g91 v_112) g91) fun v_114 => ifb true <|
obv (.of (bldR [(.int .i64 0), (.int .i64 0)] [(0, 1, v_98), (1, 1, v_114)]) g91) fun v_116 =>
arbV (bslR 2 [(.int .i64 0), (.int .i64 0)] 1 g91 [(0, 2, v_116)]) fun v_118 h119 =>
arbE (appR 2 16 h119 v_94 v_118) call fun v_120 h121 => lt h121 fun g121 => ifb (true && true) <|
obv (.of (fadR 6 (t 4)) g121) fun v_122 =>
arbE (stR 1 g121 v_122 v_120) call fun v_124 h125 => lt h125 fun g125 => ifb (true && true) <|
k61 .normal (upd (upd (upd (upd (upd (upd (upd (upd (upd (upd (upd (upd (upd (upd (upd (upd (upd (upd (upd (upd (upd (upd (upd (upd (upd (upd (upd (upd (upd (upd t 53 v_62) 54 v_64) 55 v_66) 56 v_68) 57 v_70) 58 v_72) 59 v_74) 60 v_76) 61 v_78) 62 v_80) 63 v_82) 64 v_84) 65 v_86) 66 v_88) 67 v_92) 68 v_94) 69 v_96) 70 v_98) 71 v_100) 72 v_102) 73 v_104) 74 v_106) 75 v_108) 76 v_110) 77 v_112) 78 v_114) 79 v_116) 80 v_118) 81 v_120) 82 v_122) g125) (
k61 .normal (upd (upd (upd (upd t 53 v_62) 54 v_64) 55 v_66) 56 v_68) h69)

def L_precentorref14_Seq_Pass_2 (P : Program) (call : FuncId → List AVal → Heap → Res AVal) (fuel : Nat) (t : T) (h : Heap) : Res (Ex × T) :=
lt okK fun k =>
lt (sqK (J_precentorref14_Seq_Pass_3 P call fuel k) k) fun k126 =>
obv (.of (fadR 4 (t 4)) h) fun v_127 =>
obv (.of (ld1 h v_127) h) fun v_128 =>
obv (.of (aBin P .geq 3 (.tmp 24) (.const (.int .i64 0)) v_128 (.int .i64 0)) h) fun v_129 =>
obv (.val v_129 h) fun v_130 =>
gd (wantB v_130 true) (fun c => obv (.of (fadR 4 (t 4)) h) fun v => c v h) h fun v_131 h132 =>
gd (wantB v_130 true) (fun c => obv (.of (ld1 h132 v_131) h132) fun v => c v h132) h132 fun v_133 h134 =>
gd (wantB v_130 true) (fun c => obv (.val (t 0) h134) fun v => c v h134) h134 fun v_135 h136 =>
gd (wantB v_130 true) (fun c => obv (nckR v_135 h136) fun v => c v h136) h136 fun v_137 h138 =>
gd (wantB v_130 true) (fun c => obv (.of (fadR 0 v_137) h138) fun v => c v h138) h138 fun v_139 h140 =>
gd (wantB v_130 true) (fun c => obv (.of (ld1 h140 v_139) h140) fun v => c v h140) h140 fun v_141 h142 =>
gd (wantB v_130 true) (fun c => obv (.of (lenL v_141) h142) fun v => c v h142) h142 fun v_143 h144 =>
gd (wantB v_130 true) (fun c => obv (.of (aBin P .lss 3 (.tmp 28) (.tmp 33) v_133 v_143) h144) fun v => c v h144) h144 fun v_145 h146 =>
obv (pkR v_130 v_145 (.bool false) h146) fun v_147 =>
obv (.val v_147 h146) fun v_148 =>
gd (wantB v_148 true) (fun c => obv (.of (fadR 4 (t 4)) h146) fun v => c v h146) h146 fun v_149 h150 =>
gd (wantB v_148 true) (fun c => obv (.of (ld1 h150 v_149) h150) fun v => c v h150) h150 fun v_151 h152 =>
gd (wantB v_148 true) (fun c => obv (.val (t 8) h152) fun v => c v h152) h152 fun v_153 h154 =>
gd (wantB v_148 true) (fun c => obv (.of (aBin P .leq 3 (.tmp 38) (.tmp 39) v_151 v_153) h154) fun v => c v h154) h154 fun v_155 h156 =>
obv (pkR v_148 v_155 (.bool false) h156) fun v_157 =>
obv (.val v_157 h156) fun v_158 =>
gd (wantB v_158 true) (fun c => obv (.val (t 0) h156) fun v => c v h156) h156 fun v_159 h160 =>
gd (wantB v_158 true) (fun c => obv (nckR v_159 h160) fun v => c v h160) h160 fun v_161 h162 =>
gd (wantB v_158 true) (fun c => obv (.of (fadR 0 v_161) h162) fun v => c v h162) h162 fun v_163 h164 =>
gd (wantB v_158 true) (fun c => obv (.of (ld1 h164 v_163) h164) fun v => c v h164) h164 fun v_165 h166 =>
gd (wantB v_158 true) (fun c => obv (.of (fadR 4 (t 4)) h166) fun v => c v h166) h166 fun v_167 h168 =>
gd (wantB v_158 true) (fun c => obv (.of (ld1 h168 v_167) h168) fun v => c v h168) h168 fun v_169 h170 =>
gd (wantB v_158 true) (fun c => obv (.of (ixsR 1 v_165 v_169) h170) fun v => c v h170) h170 fun v_171 h172 =>
gd (wantB v_158 true) (fun c => obv (.of (ld1 h172 v_171) h172) fun v => c v h172) h172 fun v_173 h174 =>
gd (wantB v_158 true) (fun c => obv (.of (aBin P .geq 3 (.tmp 50) (.const (.int .i64 0)) v_173 (.int .i64 0)) h174) fun v => c v h174) h174 fun v_175 h176 =>
obv (pkR v_158 v_175 (.bool false) h176) fun v_177 =>
cb v_177 (
k126 .normal (upd (upd (upd (upd (upd (upd (upd (upd (upd (upd (upd (upd (upd (upd (upd (upd (upd (upd (upd (upd (upd (upd (upd (upd (upd (upd (upd (upd (upd (upd t 23 v_127) 24 v_128) 25 v_129) 26 v_130) 27 v_131) 28 v_133) 29 v_135) 30 v_137) 31 v_139) 32 v_141) 33 v_143) 34 v_145) 35 v_147) 36 v_148) 37 v_149) 38 v_151) 39 v_153) 40 v_155) 41 v_157) 42 v_158) 43 v_159) 44 v_161) 45 v_163) 46 v_165) 47 v_167) 48 v_169) 49 v_171) 50 v_173) 51 v_175) 52 v_177) h176) (
k126 (.exit 0) (upd (upd (upd (upd (upd (upd (upd (upd (upd (upd (upd (upd (upd (upd (upd (upd (upd (upd (upd (upd (upd (upd (upd (upd (upd (upd (upd (upd (upd (upd t 23 v_127) 24 v_128) 25 v_129) 26 v_130) 27 v_131) 28 v_133) 29 v_135) 30 v_137) 31 v_139) 32 v_141) 33 v_143) 34 v_145) 35 v_147) 36 v_148) 37 v_149) 38 v_151) 39 v_153) 40 v_155) 41 v_157) 42 v_158) 43 v_159) 44 v_161) 45 v_163) 46 v_165) 47 v_167) 48 v_169) 49 v_171) 50 v_173) 51 v_175) 52 v_177) h176)

def J_precentorref14_Seq_Pass_0 (P : Program) (call : FuncId → List AVal → Heap → Res AVal) (fuel : Nat) (k : Kn (AVal)) (t : T) (h : Heap) : Res (AVal) :=
arb (bslR 2 [] 0 h []) call fun v_8 h9 =>
arb (.of (fadR 6 (t 4)) h9) call fun v_10 h11 =>
arb (.of (ld1 h11 v_10) h11) call fun v_12 h13 =>
arb (appR 2 16 h13 v_8 v_12) call fun v_14 h15 =>
arb (.of (fadR 6 (t 4)) h15) call fun v_16 h17 =>
arb (stR 1 h17 v_16 v_14) call fun v_18 h19 =>
lt (sqK (J_precentorref14_Seq_Pass_1 P call fuel k) k) fun k48 =>
lt (blkK 0 k48) fun k49 =>
(loopN (L_precentorref14_Seq_Pass_2 P call fuel) fuel (upd (upd (upd (upd (upd t 18 v_8) 19 v_10) 20 v_12) 21 v_14) 22 v_16) h19).bind (lpK k49)

theorem C_precentorref14_Seq_Pass_0 (h : Heap) (a : AVal) : aLoad Try.prog h 30 a = ldn 7 h a := by kernel_rfl
def S_precentorref14_Seq_Pass (P : Program) (call : FuncId → List AVal → Heap → Res AVal) (fuel : Nat) (s_a0 e_a1 way_a2 : AVal) (h : Heap) : Res AVal :=
lt (retK P [.cell 6 30, .tmp 7]) fun k =>
arb (boxR e_a1 h) call fun e_0 h1 =>
arb (newR [(.int .i64 0), (.int .i64 0), (.int .i64 0), (.int .i64 0), (.int .i64 0), .nils, .nils] h1) call fun v_2 h3 =>
arb (.val (.bool false) h3) call fun v_4 h5 =>
arb (.val (.int .i64 (-1)) h5) call fun last_6 h7 =>
lt (sqK (J_precentorref14_Seq_Pass_0 P call fuel k) k) fun k178 =>
arb (.val way_a2 h7) call fun v_179 h180 =>
arb (.of (lenL v_179) h180) call fun v_181 h182 =>
arb (.of (aBin P .gtr 3 (.tmp 10) (.const (.int .i64 0)) v_181 (.int .i64 0)) h182) call fun v_183 h184 =>
cb v_183 (
arb (.val way_a2 h184) call fun v_185 h186 =>
arb (.val way_a2 h186) call fun v_187 h188 =>
arb (.of (lenL v_187) h188) call fun v_189 h190 =>
arb (.of (aBin P .sub 3 (.tmp 14) (.const (.int .i64 1)) v_189 (.int .i64 1)) h190) call fun v_191 h192 =>
arb (.of (ixsR 1 v_185 v_191) h192) call fun v_193 h194 =>
arb (.of (ld1 h194 v_193) h194) call fun v_195 h196 =>
arb (.val v_195 h196) call fun last_197 h198 =>
k178 .normal (upd (upd (upd (upd (upd (upd (upd (upd (upd (upd (upd (upd (upd (upd (enterT [s_a0, e_a1, way_a2]) 4 e_0) 6 v_2) 7 v_4) 8 last_6) 9 v_179) 10 v_181) 11 v_183) 12 v_185) 13 v_187) 14 v_189) 15 v_191) 16 v_193) 17 v_195) 8 last_197) h198) (
k178 .normal (upd (upd (upd (upd (upd (upd (upd (enterT [s_a0, e_a1, way_a2]) 4 e_0) 6 v_2) 7 v_4) 8 last_6) 9 v_179) 10 v_181) 11 v_183) h184)
theorem E_precentorref14_Seq_Pass (call : FuncId → List AVal → Heap → Res AVal) (fuel : Nat) (s_a0 e_a1 way_a2 : AVal) (h : Heap) : bodyR Try.prog call fuel Try.f15 [s_a0, e_a1, way_a2] h = S_precentorref14_Seq_Pass Try.prog call fuel s_a0 e_a1 way_a2 h := by kernel_rfl
theorem R_precentorref14_Seq_Pass {X : XTab} (s_a0 e_a1 way_a2 : AVal) {h : Heap} {Q : AVal → Heap → Prop} (hx : X F_precentorref14_Seq_Pass [s_a0, e_a1, way_a2] = none) (q : Tells (fun m => S_precentorref14_Seq_Pass Try.prog (acallX Try.prog X m) m s_a0 e_a1 way_a2 h) Q) :
    Tells (fun m => acallX Try.prog X m F_precentorref14_Seq_Pass [s_a0, e_a1, way_a2] h) Q :=
  Tells.later (q.le fun m => (E_precentorref14_Seq_Pass (acallX Try.prog X m) m s_a0 e_a1 way_a2 h) ▸ acallX_le Try.func15 hx m h)

/-! ### (*precentor/precentorref14.Seq).Count -/
def J_precentorref14_Seq_Count_0 (P : Program) (call : FuncId → List AVal → Heap → Res AVal) (fuel : Nat) (k : Kn (AVal)) (t : T) (h : Heap) : Res (AVal) :=
arb (.val (t 0) h) call fun v_2 h3 =>
arb (nckR v_2 h3) call fun v_4 h5 =>
arb (.of (fadR 0 v_4) h5) call fun v_6 h7 =>
arb (.of (ld1 h7 v_6) h7) call fun v_8 h9 =>
arb (.val (t 1) h9) call fun v_10 h11 =>
arb (.of (ixsR 1 v_8 v_10) h11) call fun v_12 h13 =>
arb (.of (ld1 h13 v_12) h13) call fun v_14 h15 =>
arb (.of (aPureB P (Builtin.max_ #[3, 3] 3) [(.int .i64 0), v_14]) h15) call fun v_16 h17 =>
arb (.val v_16 h17) call fun v_18 h19 =>
k .ret (upd (upd (upd (upd (upd (upd (upd (upd (upd t 16 v_2) 17 v_4) 18 v_6) 19 v_8) 20 v_10) 21 v_12) 22 v_14) 23 v_16) 4 v_18) h19

def S_precentorref14_Seq_Count (P : Program) (call : FuncId → List AVal → Heap → Res AVal) (fuel : Nat) (s_a0 place_a1 : AVal) (h : Heap) : Res AVal :=
lt (retK P [.tmp 4]) fun k =>
arb (.val (.int .i64 0) h) call fun v_0 h1 =>
lt (sqK (J_precentorref14_Seq_Count_0 P call fuel k) k) fun k20 =>
arb (.val place_a1 h1) call fun v_21 h22 =>
arb (.of (aBin P .lss 3 (.tmp 5) (.const (.int .i64 0)) v_21 (.int .i64 0)) h22) call fun v_23 h24 =>
arb (.val v_23 h24) call fun v_25 h26 =>
gd (wantB v_25 false) (fun c => arb (.val place_a1 h26) call c) h26 fun v_27 h28 =>
gd (wantB v_25 false) (fun c => arb (.val s_a0 h28) call c) h28 fun v_29 h30 =>
gd (wantB v_25 false) (fun c => arb (nckR v_29 h30) call c) h30 fun v_31 h32 =>
gd (wantB v_25 false) (fun c => arb (.of (fadR 0 v_31) h32) call c) h32 fun v_33 h34 =>
gd (wantB v_25 false) (fun c => arb (.of (ld1 h34 v_33) h34) call c) h34 fun v_35 h36 =>
gd (wantB v_25 false) (fun c => arb (.of (lenL v_35) h36) call c) h36 fun v_37 h38 =>
gd (wantB v_25 false) (fun c => arb (.of (aBin P .geq 3 (.tmp 8) (.tmp 13) v_27 v_37) h38) call c) h38 fun v_39 h40 =>
arb (pkR v_25 (.bool true) v_39 h40) call fun v_41 h42 =>
cb v_41 (
arb (.val (.int .i64 0) h42) call fun v_43 h44 =>
k20 .ret (upd (upd (upd (upd (upd (upd (upd (upd (upd (upd (upd (upd (upd (enterT [s_a0, place_a1]) 4 v_0) 5 v_21) 6 v_23) 7 v_25) 8 v_27) 9 v_29) 10 v_31) 11 v_33) 12 v_35) 13 v_37) 14 v_39) 15 v_41) 4 v_43) h44) (
k20 .normal (upd (upd (upd (upd (upd (upd (upd (upd (upd (upd (upd (upd (enterT [s_a0, place_a1]) 4 v_0) 5 v_21) 6 v_23) 7 v_25) 8 v_27) 9 v_29) 10 v_31) 11 v_33) 12 v_35) 13 v_37) 14 v_39) 15 v_41) h42)
theorem E_precentorref14_Seq_Count (call : FuncId → List AVal → Heap → Res AVal) (fuel : Nat) (s_a0 place_a1 : AVal) (h : Heap) : bodyR Try.prog call fuel Try.f17 [s_a0, place_a1] h = S_precentorref14_Seq_Count Try.prog call fuel s_a0 place_a1 h := by kernel_rfl
theorem R_precentorref14_Seq_Count {X : XTab} (s_a0 place_a1 : AVal) {h : Heap} {Q : AVal → Heap → Prop} (hx : X F_precentorref14_Seq_Count [s_a0, place_a1] = none) (q : Tells (fun m => S_precentorref14_Seq_Count Try.prog (acallX Try.prog X m) m s_a0 place_a1 h) Q) :
    Tells (fun m => acallX Try.prog X m F_precentorref14_Seq_Count [s_a0, place_a1] h) Q :=
  Tells.later (q.le fun m => (E_precentorref14_Seq_Count (acallX Try.prog X m) m s_a0 place_a1 h) ▸ acallX_le Try.func17 hx m h)


end Go.Proofs.Ytbkfamdkdjajjaa
