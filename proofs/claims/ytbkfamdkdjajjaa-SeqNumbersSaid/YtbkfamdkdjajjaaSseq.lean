/-
  Functions of seq in the form of YtbkfamdkdjajjaaABS (printed by a program of ours, gen.lean).
-/
import Derived.Test.YtbkfamdkdjajjaaSIds
set_option linter.unusedVariables false
namespace Go.Proofs.Ytbkfamdkdjajjaa
open Go.Ab
/-! ### precentor/seq.New -/
def J_seq_New_0 (P : Program) (call : FuncId → List AVal → Heap → Res AVal) (fuel : Nat) (k : Kn (AVal)) (t : T) (h : Heap) : Res (AVal) :=
arb (.val (t 5) h) call fun v_20 h21 =>
arb (.val v_20 h21) call fun v_22 h23 =>
k .ret (upd (upd t 34 v_20) 4 v_22) h23

def J_seq_New_3 (P : Program) (call : FuncId → List AVal → Heap → Res AVal) (fuel : Nat) (k : Kn (Ex × T)) (t : T) (h : Heap) : Res (Ex × T) :=
arb (.of (aBin P .add 3 (.tmp 18) (.const (.int .i64 1)) (t 18) (.int .i64 1)) h) call fun v_34 h35 =>
arb (.val v_34 h35) call fun v_36 h37 =>
k .normal (upd (upd t 33 v_34) 18 v_36) h37

def J_seq_New_2 (P : Program) (call : FuncId → List AVal → Heap → Res AVal) (fuel : Nat) (k : Kn (Ex × T)) (t : T) (h : Heap) : Res (Ex × T) :=
lt (sqK (J_seq_New_3 P call fuel k) k) fun k38 =>
lt (blkK 1 k38) fun k39 =>
arb (.val (t 18) h) call fun v_40 h41 =>
arb (.of (ixsR 3 (t 16) (t 18)) h41) call fun v_42 h43 =>
arb (.of (ldn 3 h43 v_42) h43) call fun v_44 h45 =>
arb (newR [(.int .i64 0), (.int .i64 0), (.int .i64 0)] h45) call fun x_46 h47 =>
arb (.val v_40 h47) call fun i_48 h49 =>
arb (stR 3 h49 x_46 v_44) call fun v_50 h51 =>
obv (.val (t 5) h51) fun v_52 =>
obv (nckR v_52 h51) fun v_54 =>
obv (.of (fadR 0 v_54) h51) fun v_56 =>
obv (.of (ld1 h51 v_56) h51) fun v_58 => ifb true <|
obv (.val i_48 h51) fun v_60 =>
obv (.of (fadR 2 x_46) h51) fun v_62 =>
obv (.of (ld1 h51 v_62) h51) fun v_64 => ifb true <|
obv (.val (t 1) h51) fun v_66 =>
obv (.of (aBin P .eql 3 (.tmp 29) (.tmp 30) v_64 v_66) h51) fun v_68 =>
obv (.of (ixsR 1 v_58 v_60) h51) fun v_70 =>
arbE (stR 1 h51 v_70 v_68) call fun v_72 h73 => lt h73 fun g73 => ifb (true && true) <|
k39 .normal (upd (upd (upd (upd (upd (upd (upd (upd (upd (upd (upd (upd (upd (upd (upd t 20 v_40) 21 v_42) 22 v_44) 7 x_46) 6 i_48) 23 v_52) 24 v_54) 25 v_56) 26 v_58) 27 v_60) 28 v_62) 29 v_64) 30 v_66) 31 v_68) 32 v_70) g73

def L_seq_New_1 (P : Program) (call : FuncId → List AVal → Heap → Res AVal) (fuel : Nat) (t : T) (h : Heap) : Res (Ex × T) :=
lt okK fun k =>
arb (.of (aBin P .lss 3 (.tmp 18) (.tmp 17) (t 18) (t 17)) h) call fun v_32 h33 =>
lt (sqK (J_seq_New_2 P call fuel k) k) fun k74 =>
cb v_32 (
k74 .normal (upd t 19 v_32) h33) (
k74 (.exit 0) (upd t 19 v_32) h33)

def S_seq_New (P : Program) (call : FuncId → List AVal → Heap → Res AVal) (fuel : Nat) (c_a0 broker_a1 : AVal) (h : Heap) : Res AVal :=
lt (retK P [.tmp 4]) fun k =>
arb (.val .nilp h) call fun v_0 h1 =>
obv (.val c_a0 h1) fun v_2 =>
obv (.of (lenL v_2) h1) fun v_4 =>
arbV (makR 1 1 [(.bool false)] h1 v_4 v_4) fun v_6 h7 =>
obv (.val c_a0 h7) fun v_8 =>
obv (.of (lenL v_8) h7) fun v_10 =>
arbV (makR 1 8 [(.int .i64 0)] h7 v_10 v_10) fun v_12 h13 =>
obv (.of (bldR [.nils, .nils] [(0, 1, v_6), (1, 1, v_12)]) h13) fun v_14 =>
arbV (boxR v_14 h13) fun v_16 h17 =>
obv (.val v_16 h17) fun s_18 =>
lt (sqK (J_seq_New_0 P call fuel k) k) fun k24 =>
arb (.val c_a0 h17) call fun v_25 h26 =>
arb (.of (lenL v_25) h26) call fun v_27 h28 =>
arb (.val (.int .i64 0) h28) call fun v_29 h30 =>
lt (blkK 0 k24) fun k31 =>
(loopN (L_seq_New_1 P call fuel) fuel (upd (upd (upd (upd (upd (upd (upd (upd (upd (upd (upd (upd (upd (enterT [c_a0, broker_a1]) 4 v_0) 8 v_2) 9 v_4) 10 v_6) 11 v_8) 12 v_10) 13 v_12) 14 v_14) 15 v_16) 5 s_18) 16 v_25) 17 v_27) 18 v_29) h30).bind (lpK k31)
theorem E_seq_New (call : FuncId → List AVal → Heap → Res AVal) (fuel : Nat) (c_a0 broker_a1 : AVal) (h : Heap) : bodyR Try.prog call fuel Try.f7 [c_a0, broker_a1] h = S_seq_New Try.prog call fuel c_a0 broker_a1 h := by kernel_rfl
theorem R_seq_New {X : XTab} (c_a0 broker_a1 : AVal) {h : Heap} {Q : AVal → Heap → Prop} (hx : X F_seq_New [c_a0, broker_a1] = none) (q : Tells (fun m => S_seq_New Try.prog (acallX Try.prog X m) m c_a0 broker_a1 h) Q) :
    Tells (fun m => acallX Try.prog X m F_seq_New [c_a0, broker_a1] h) Q :=
  Tells.later (q.le fun m => (E_seq_New (acallX Try.prog X m) m c_a0 broker_a1 h) ▸ acallX_le Try.func7 hx m h)

/-! ### (*precentor/seq.Seq).Pass -/
def J_seq_Seq_Pass_1 (P : Program) (call : FuncId → List AVal → Heap → Res AVal) (fuel : Nat) (k : Kn (AVal)) (t : T) (h : Heap) : Res (AVal) :=
obv (.of (ldn 7 h (t 4)) h) fun v_40 => ifb true <|
obv (.of (fadR 4 (t 4)) h) fun v_42 =>
obv (.of (ld1 h v_42) h) fun v_44 => ifb true <|
obv (.val (t 8) h) fun v_46 =>
obv (.of (aBin P .gtr 3 (.tmp 73) (.tmp 74) v_44 v_46) h) fun v_48 =>
arbE (stR 7 h (t 6) v_40) call fun v_50 h51 => lt h51 fun g51 => ifb (true && (isV v_44 (arVal (.of (ld1 g51 v_42) g51)) && true)) <|
obv (.val v_48 g51) fun v_52 =>
k .ret (upd (upd (upd (upd (upd (upd t 71 v_40) 72 v_42) 73 v_44) 74 v_46) 75 v_48) 7 v_52) g51

def J_seq_Seq_Pass_4 (P : Program) (call : FuncId → List AVal → Heap → Res AVal) (fuel : Nat) (k : Kn (Ex × T)) (t : T) (h : Heap) : Res (Ex × T) :=
arb (.of (fadR 4 (t 4)) h) call fun v_57 h58 =>
arb (.of (ld1 h58 v_57) h58) call fun v_59 h60 =>
arb (.of (aBin P .add 3 (.tmp 68) (.const (.int .i64 1)) v_59 (.int .i64 1)) h60) call fun v_61 h62 =>
arb (.of (fadR 4 (t 4)) h62) call fun v_63 h64 =>
arb (stR 1 h64 v_63 v_61) call fun v_65 h66 =>
k .normal (upd (upd (upd (upd t 67 v_57) 68 v_59) 69 v_61) 70 v_63) h66

def J_seq_Seq_Pass_3 (P : Program) (call : FuncId → List AVal → Heap → Res AVal) (fuel : Nat) (k : Kn (Ex × T)) (t : T) (h : Heap) : Res (Ex × T) :=
lt (blkK 1 k) fun k56 =>
lt (sqK (J_seq_Seq_Pass_4 P call fuel k56) k56) fun k67 =>
arb (.val (t 2) h) call fun v_68 h69 =>
arb (.of (fadR 4 (t 4)) h69) call fun v_70 h71 =>
arb (.of (ld1 h71 v_70) h71) call fun v_72 h73 =>
arb (.call F_seq_has [v_68, v_72] h73) call fun v_74 h75 =>
cb v_74 (
obv (.val (t 0) h75) fun v_76 =>
obv (nckR v_76 h75) fun v_78 =>
obv (.of (fadR 1 v_78) h75) fun v_80 =>
obv (.of (ld1 h75 v_80) h75) fun v_82 => ifb true <|
obv (.of (fadR 4 (t 4)) h75) fun v_84 =>
obv (.of (ld1 h75 v_84) h75) fun v_86 => ifb true <|
obv (.of (ixsR 1 v_82 v_86) h75) fun v_88 =>
obv (.of (ld1 h75 v_88) h75) fun v_90 => ifb true <|
obv (.of (aBin P .add 3 (.tmp 48) (.const (.int .i64 1)) v_90 (.int .i64 1)) h75) fun v_92 =>
obv (.of (ixsR 1 v_82 v_86) h75) fun v_94 =>
arbE (stR 1 h75 v_94 v_92) call fun v_96 h97 => lt h97 fun g97 => ifb (true && true) <|
obv (.of (fadR 6 (t 4)) g97) fun v_98 =>
obv (.of (ld1 g97 v_98) g97) fun v_100 => ifb true <|
obv (.of (fadR 4 (t 4)) g97) fun v_102 =>
obv (.of (ld1 g97 v_102) g97) fun v_104 => ifb true <|
obv (.val (t 0) g97) fun v_106 =>
obv (nckR v_106 g97) fun v_108 =>
obv (.of (fadR 1 v_108) g97) fun v_110 =>
obv (.of (ld1 g97 v_110) g97) fun v_112 => ifb true <|
obv (.of (fadR 4 (t 4)) g97) fun v_114 =>
obv (.of (ld1 g97 v_114) g97) fun v_116 => ifb true <|
obv (.of (ixsR 1 v_112 v_116) g97) fun v_118 =>
obv (.of (ld1 g97 v_118) g97) fun v_120 => ifb true <|
obv (.of (bldR [(.int .i64 0), (.int .i64 0)] [(0, 1, v_104), (1, 1, v_120)]) g97) fun v_122 =>
arbV (bslR 2 [(.int .i64 0), (.int .i64 0)] 1 g97 [(0, 2, v_122)]) fun v_124 h125 =>
arbE (appR 2 16 h125 v_100 v_124) call fun v_126 h127 => lt h127 fun g127 => ifb (true && true) <|
obv (.of (fadR 6 (t 4)) g127) fun v_128 =>
arbE (stR 1 g127 v_128 v_126) call fun v_130 h131 => lt h131 fun g131 => ifb (true && true) <|
k67 .normal (upd (upd (upd (upd (upd (upd (upd (upd (upd (upd (upd (upd (upd (upd (upd (upd (upd (upd (upd (upd (upd (upd (upd (upd (upd (upd (upd (upd (upd (upd t 37 v_68) 38 v_70) 39 v_72) 40 v_74) 41 v_76) 42 v_78) 43 v_80) 44 v_82) 45 v_84) 46 v_86) 47 v_88) 48 v_90) 49 v_92) 50 v_94) 51 v_98) 52 v_100) 53 v_102) 54 v_104) 55 v_106) 56 v_108) 57 v_110) 58 v_112) 59 v_114) 60 v_116) 61 v_118) 62 v_120) 63 v_122) 64 v_124) 65 v_126) 66 v_128) g131) (
k67 .normal (upd (upd (upd (upd t 37 v_68) 38 v_70) 39 v_72) 40 v_74) h75)

def L_seq_Seq_Pass_2 (P : Program) (call : FuncId → List AVal → Heap → Res AVal) (fuel : Nat) (t : T) (h : Heap) : Res (Ex × T) :=
lt okK fun k =>
lt (sqK (J_seq_Seq_Pass_3 P call fuel k) k) fun k132 =>
arb (.of (fadR 4 (t 4)) h) call fun v_133 h134 =>
arb (.of (ld1 h134 v_133) h134) call fun v_135 h136 =>
arb (.val (t 8) h136) call fun v_137 h138 =>
arb (.of (aBin P .leq 3 (.tmp 28) (.tmp 29) v_135 v_137) h138) call fun v_139 h140 =>
arb (.val v_139 h140) call fun v_141 h142 =>
gd (wantB v_141 true) (fun c => arb (.val (t 0) h142) call c) h142 fun v_143 h144 =>
gd (wantB v_141 true) (fun c => arb (.of (fadR 4 (t 4)) h144) call c) h144 fun v_145 h146 =>
gd (wantB v_141 true) (fun c => arb (.of (ld1 h146 v_145) h146) call c) h146 fun v_147 h148 =>
gd (wantB v_141 true) (fun c => arb (.call F_seq_Seq_own [v_143, v_147] h148) call c) h148 fun v_149 h150 =>
arb (pkR v_141 v_149 (.bool false) h150) call fun v_151 h152 =>
cb v_151 (
k132 .normal (upd (upd (upd (upd (upd (upd (upd (upd (upd (upd t 27 v_133) 28 v_135) 29 v_137) 30 v_139) 31 v_141) 32 v_143) 33 v_145) 34 v_147) 35 v_149) 36 v_151) h152) (
k132 (.exit 0) (upd (upd (upd (upd (upd (upd (upd (upd (upd (upd t 27 v_133) 28 v_135) 29 v_137) 30 v_139) 31 v_141) 32 v_143) 33 v_145) 34 v_147) 35 v_149) 36 v_151) h152)

def J_seq_Seq_Pass_0 (P : Program) (call : FuncId → List AVal → Heap → Res AVal) (fuel : Nat) (k : Kn (AVal)) (t : T) (h : Heap) : Res (AVal) :=
arb (.val (t 2) h) call fun v_26 h27 =>
arb (.val (t 2) h27) call fun v_28 h29 =>
arb (.of (lenL v_28) h29) call fun v_30 h31 =>
arb (.of (aBin P .sub 3 (.tmp 23) (.const (.int .i64 1)) v_30 (.int .i64 1)) h31) call fun v_32 h33 =>
arb (.of (ixsR 1 v_26 v_32) h33) call fun v_34 h35 =>
arb (.of (ld1 h35 v_34) h35) call fun v_36 h37 =>
arb (.val v_36 h37) call fun last_38 h39 =>
lt (sqK (J_seq_Seq_Pass_1 P call fuel k) k) fun k54 =>
lt (blkK 0 k54) fun k55 =>
(loopN (L_seq_Seq_Pass_2 P call fuel) fuel (upd (upd (upd (upd (upd (upd (upd t 21 v_26) 22 v_28) 23 v_30) 24 v_32) 25 v_34) 26 v_36) 8 last_38) h39).bind (lpK k55)

theorem C_seq_Seq_Pass_0 (h : Heap) (a : AVal) : aLoad Try.prog h 30 a = ldn 7 h a := by kernel_rfl
def S_seq_Seq_Pass (P : Program) (call : FuncId → List AVal → Heap → Res AVal) (fuel : Nat) (s_a0 e_a1 way_a2 : AVal) (h : Heap) : Res AVal :=
lt (retK P [.cell 6 30, .tmp 7]) fun k =>
arb (boxR e_a1 h) call fun e_0 h1 =>
arb (newR [(.int .i64 0), (.int .i64 0), (.int .i64 0), (.int .i64 0), (.int .i64 0), .nils, .nils] h1) call fun v_2 h3 =>
arb (.val (.bool false) h3) call fun v_4 h5 =>
arb (.of (fadR 5 e_0) h5) call fun v_6 h7 =>
arb (.of (ld1 h7 v_6) h7) call fun v_8 h9 =>
arb (appR 6 64 h9 .nils v_8) call fun v_10 h11 =>
arb (.of (fadR 5 e_0) h11) call fun v_12 h13 =>
arb (stR 1 h13 v_12 v_10) call fun v_14 h15 =>
arb (.of (fadR 6 e_0) h15) call fun v_16 h17 =>
arb (.of (ld1 h17 v_16) h17) call fun v_18 h19 =>
arb (appR 2 16 h19 .nils v_18) call fun v_20 h21 =>
arb (.of (fadR 6 e_0) h21) call fun v_22 h23 =>
arb (stR 1 h23 v_22 v_20) call fun v_24 h25 =>
lt (sqK (J_seq_Seq_Pass_0 P call fuel k) k) fun k153 =>
arb (.val way_a2 h25) call fun v_154 h155 =>
arb (.of (lenL v_154) h155) call fun v_156 h157 =>
arb (.of (aBin P .eql 3 (.tmp 18) (.const (.int .i64 0)) v_156 (.int .i64 0)) h157) call fun v_158 h159 =>
cb v_158 (
arb (.of (ldn 7 h159 e_0) h159) call fun v_160 h161 =>
arb (stR 7 h161 v_2 v_160) call fun v_162 h163 =>
arb (.val (.bool true) h163) call fun v_164 h165 =>
k153 .ret (upd (upd (upd (upd (upd (upd (upd (upd (upd (upd (upd (upd (upd (upd (upd (upd (enterT [s_a0, e_a1, way_a2]) 4 e_0) 6 v_2) 7 v_4) 9 v_6) 10 v_8) 11 v_10) 12 v_12) 13 v_16) 14 v_18) 15 v_20) 16 v_22) 17 v_154) 18 v_156) 19 v_158) 20 v_160) 7 v_164) h165) (
k153 .normal (upd (upd (upd (upd (upd (upd (upd (upd (upd (upd (upd (upd (upd (upd (enterT [s_a0, e_a1, way_a2]) 4 e_0) 6 v_2) 7 v_4) 9 v_6) 10 v_8) 11 v_10) 12 v_12) 13 v_16) 14 v_18) 15 v_20) 16 v_22) 17 v_154) 18 v_156) 19 v_158) h159)
theorem E_seq_Seq_Pass (call : FuncId → List AVal → Heap → Res AVal) (fuel : Nat) (s_a0 e_a1 way_a2 : AVal) (h : Heap) : bodyR Try.prog call fuel Try.f8 [s_a0, e_a1, way_a2] h = S_seq_Seq_Pass Try.prog call fuel s_a0 e_a1 way_a2 h := by kernel_rfl
theorem R_seq_Seq_Pass {X : XTab} (s_a0 e_a1 way_a2 : AVal) {h : Heap} {Q : AVal → Heap → Prop} (hx : X F_seq_Seq_Pass [s_a0, e_a1, way_a2] = none) (q : Tells (fun m => S_seq_Seq_Pass Try.prog (acallX Try.prog X m) m s_a0 e_a1 way_a2 h) Q) :
    Tells (fun m => acallX Try.prog X m F_seq_Seq_Pass [s_a0, e_a1, way_a2] h) Q :=
  Tells.later (q.le fun m => (E_seq_Seq_Pass (acallX Try.prog X m) m s_a0 e_a1 way_a2 h) ▸ acallX_le Try.func8 hx m h)

/-! ### (*precentor/seq.Seq).Count -/
def J_seq_Seq_Count_0 (P : Program) (call : FuncId → List AVal → Heap → Res AVal) (fuel : Nat) (k : Kn (AVal)) (t : T) (h : Heap) : Res (AVal) :=
arb (.val (t 0) h) call fun v_2 h3 =>
arb (nckR v_2 h3) call fun v_4 h5 =>
arb (.of (fadR 1 v_4) h5) call fun v_6 h7 =>
arb (.of (ld1 h7 v_6) h7) call fun v_8 h9 =>
arb (.val (t 1) h9) call fun v_10 h11 =>
arb (.of (ixsR 1 v_8 v_10) h11) call fun v_12 h13 =>
arb (.of (ld1 h13 v_12) h13) call fun v_14 h15 =>
arb (.val v_14 h15) call fun v_16 h17 =>
k .ret (upd (upd (upd (upd (upd (upd (upd (upd t 9 v_2) 10 v_4) 11 v_6) 12 v_8) 13 v_10) 14 v_12) 15 v_14) 4 v_16) h17

def S_seq_Seq_Count (P : Program) (call : FuncId → List AVal → Heap → Res AVal) (fuel : Nat) (s_a0 place_a1 : AVal) (h : Heap) : Res AVal :=
lt (retK P [.tmp 4]) fun k =>
arb (.val (.int .i64 0) h) call fun v_0 h1 =>
lt (sqK (J_seq_Seq_Count_0 P call fuel k) k) fun k18 =>
arb (.val s_a0 h1) call fun v_19 h20 =>
arb (.val place_a1 h20) call fun v_21 h22 =>
arb (.call F_seq_Seq_own [v_19, v_21] h22) call fun v_23 h24 =>
arb (.of (aUn P .not v_23) h24) call fun v_25 h26 =>
cb v_25 (
arb (.val (.int .i64 0) h26) call fun v_27 h28 =>
k18 .ret (upd (upd (upd (upd (upd (upd (enterT [s_a0, place_a1]) 4 v_0) 5 v_19) 6 v_21) 7 v_23) 8 v_25) 4 v_27) h28) (
k18 .normal (upd (upd (upd (upd (upd (enterT [s_a0, place_a1]) 4 v_0) 5 v_19) 6 v_21) 7 v_23) 8 v_25) h26)
theorem E_seq_Seq_Count (call : FuncId → List AVal → Heap → Res AVal) (fuel : Nat) (s_a0 place_a1 : AVal) (h : Heap) : bodyR Try.prog call fuel Try.f9 [s_a0, place_a1] h = S_seq_Seq_Count Try.prog call fuel s_a0 place_a1 h := by kernel_rfl
theorem R_seq_Seq_Count {X : XTab} (s_a0 place_a1 : AVal) {h : Heap} {Q : AVal → Heap → Prop} (hx : X F_seq_Seq_Count [s_a0, place_a1] = none) (q : Tells (fun m => S_seq_Seq_Count Try.prog (acallX Try.prog X m) m s_a0 place_a1 h) Q) :
    Tells (fun m => acallX Try.prog X m F_seq_Seq_Count [s_a0, place_a1] h) Q :=
  Tells.later (q.le fun m => (E_seq_Seq_Count (acallX Try.prog X m) m s_a0 place_a1 h) ▸ acallX_le Try.func9 hx m h)

/-! ### (*precentor/seq.Seq).own -/

def S_seq_Seq_own (P : Program) (call : FuncId → List AVal → Heap → Res AVal) (fuel : Nat) (s_a0 place_a1 : AVal) (h : Heap) : Res AVal :=
lt (retK P [.tmp 4]) fun k =>
arb (.val (.bool false) h) call fun v_0 h1 =>
arb (.val place_a1 h1) call fun v_2 h3 =>
arb (.of (aBin P .geq 3 (.tmp 5) (.const (.int .i64 0)) v_2 (.int .i64 0)) h3) call fun v_4 h5 =>
arb (.val v_4 h5) call fun v_6 h7 =>
gd (wantB v_6 true) (fun c => arb (.val place_a1 h7) call c) h7 fun v_8 h9 =>
gd (wantB v_6 true) (fun c => arb (.val s_a0 h9) call c) h9 fun v_10 h11 =>
gd (wantB v_6 true) (fun c => arb (nckR v_10 h11) call c) h11 fun v_12 h13 =>
gd (wantB v_6 true) (fun c => arb (.of (fadR 0 v_12) h13) call c) h13 fun v_14 h15 =>
gd (wantB v_6 true) (fun c => arb (.of (ld1 h15 v_14) h15) call c) h15 fun v_16 h17 =>
gd (wantB v_6 true) (fun c => arb (.of (lenL v_16) h17) call c) h17 fun v_18 h19 =>
gd (wantB v_6 true) (fun c => arb (.of (aBin P .lss 3 (.tmp 8) (.tmp 13) v_8 v_18) h19) call c) h19 fun v_20 h21 =>
arb (pkR v_6 v_20 (.bool false) h21) call fun v_22 h23 =>
arb (.val v_22 h23) call fun v_24 h25 =>
gd (wantB v_24 true) (fun c => arb (.val s_a0 h25) call c) h25 fun v_26 h27 =>
gd (wantB v_24 true) (fun c => arb (nckR v_26 h27) call c) h27 fun v_28 h29 =>
gd (wantB v_24 true) (fun c => arb (.of (fadR 0 v_28) h29) call c) h29 fun v_30 h31 =>
gd (wantB v_24 true) (fun c => arb (.of (ld1 h31 v_30) h31) call c) h31 fun v_32 h33 =>
gd (wantB v_24 true) (fun c => arb (.val place_a1 h33) call c) h33 fun v_34 h35 =>
gd (wantB v_24 true) (fun c => arb (.of (ixsR 1 v_32 v_34) h35) call c) h35 fun v_36 h37 =>
gd (wantB v_24 true) (fun c => arb (.of (ld1 h37 v_36) h37) call c) h37 fun v_38 h39 =>
arb (pkR v_24 v_38 (.bool false) h39) call fun v_40 h41 =>
arb (.val v_40 h41) call fun v_42 h43 =>
k .ret (upd (upd (upd (upd (upd (upd (upd (upd (upd (upd (upd (upd (upd (upd (upd (upd (upd (upd (upd (upd (upd (upd (enterT [s_a0, place_a1]) 4 v_0) 5 v_2) 6 v_4) 7 v_6) 8 v_8) 9 v_10) 10 v_12) 11 v_14) 12 v_16) 13 v_18) 14 v_20) 15 v_22) 16 v_24) 17 v_26) 18 v_28) 19 v_30) 20 v_32) 21 v_34) 22 v_36) 23 v_38) 24 v_40) 4 v_42) h43
theorem E_seq_Seq_own (call : FuncId → List AVal → Heap → Res AVal) (fuel : Nat) (s_a0 place_a1 : AVal) (h : Heap) : bodyR Try.prog call fuel Try.f18 [s_a0, place_a1] h = S_seq_Seq_own Try.prog call fuel s_a0 place_a1 h := by kernel_rfl
theorem R_seq_Seq_own {X : XTab} (s_a0 place_a1 : AVal) {h : Heap} {Q : AVal → Heap → Prop} (hx : X F_seq_Seq_own [s_a0, place_a1] = none) (q : Tells (fun m => S_seq_Seq_own Try.prog (acallX Try.prog X m) m s_a0 place_a1 h) Q) :
    Tells (fun m => acallX Try.prog X m F_seq_Seq_own [s_a0, place_a1] h) Q :=
  Tells.later (q.le fun m => (E_seq_Seq_own (acallX Try.prog X m) m s_a0 place_a1 h) ▸ acallX_le Try.func18 hx m h)

/-! ### precentor/seq.has -/
def J_seq_has_0 (P : Program) (call : FuncId → List AVal → Heap → Res AVal) (fuel : Nat) (k : Kn (AVal)) (t : T) (h : Heap) : Res (AVal) :=
arb (.val (.bool false) h) call fun v_2 h3 =>
k .ret (upd t 4 v_2) h3

def J_seq_has_3 (P : Program) (call : FuncId → List AVal → Heap → Res AVal) (fuel : Nat) (k : Kn (Ex × T)) (t : T) (h : Heap) : Res (Ex × T) :=
arb (.of (aBin P .add 3 (.tmp 9) (.const (.int .i64 1)) (t 9) (.int .i64 1)) h) call fun v_14 h15 =>
arb (.val v_14 h15) call fun v_16 h17 =>
k .normal (upd (upd t 16 v_14) 9 v_16) h17

def J_seq_has_2 (P : Program) (call : FuncId → List AVal → Heap → Res AVal) (fuel : Nat) (k : Kn (Ex × T)) (t : T) (h : Heap) : Res (Ex × T) :=
lt (sqK (J_seq_has_3 P call fuel k) k) fun k18 =>
lt (blkK 1 k18) fun k19 =>
arb (.of (ixsR 1 (t 7) (t 9)) h) call fun v_20 h21 =>
arb (.of (ld1 h21 v_20) h21) call fun v_22 h23 =>
arb (.val v_22 h23) call fun x_24 h25 =>
arb (.val x_24 h25) call fun v_26 h27 =>
arb (.val (t 1) h27) call fun v_28 h29 =>
arb (.of (aBin P .eql 3 (.tmp 13) (.tmp 14) v_26 v_28) h29) call fun v_30 h31 =>
cb v_30 (
arb (.val (.bool true) h31) call fun v_32 h33 =>
k19 .ret (upd (upd (upd (upd (upd (upd (upd t 11 v_20) 12 v_22) 6 x_24) 13 v_26) 14 v_28) 15 v_30) 4 v_32) h33) (
k19 .normal (upd (upd (upd (upd (upd (upd t 11 v_20) 12 v_22) 6 x_24) 13 v_26) 14 v_28) 15 v_30) h31)

def L_seq_has_1 (P : Program) (call : FuncId → List AVal → Heap → Res AVal) (fuel : Nat) (t : T) (h : Heap) : Res (Ex × T) :=
lt okK fun k =>
arb (.of (aBin P .lss 3 (.tmp 9) (.tmp 8) (t 9) (t 8)) h) call fun v_12 h13 =>
lt (sqK (J_seq_has_2 P call fuel k) k) fun k34 =>
cb v_12 (
k34 .normal (upd t 10 v_12) h13) (
k34 (.exit 0) (upd t 10 v_12) h13)

def S_seq_has (P : Program) (call : FuncId → List AVal → Heap → Res AVal) (fuel : Nat) (l_a0 n_a1 : AVal) (h : Heap) : Res AVal :=
lt (retK P [.tmp 4]) fun k =>
arb (.val (.bool false) h) call fun v_0 h1 =>
lt (sqK (J_seq_has_0 P call fuel k) k) fun k4 =>
arb (.val l_a0 h1) call fun v_5 h6 =>
arb (.of (lenL v_5) h6) call fun v_7 h8 =>
arb (.val (.int .i64 0) h8) call fun v_9 h10 =>
lt (blkK 0 k4) fun k11 =>
(loopN (L_seq_has_1 P call fuel) fuel (upd (upd (upd (upd (enterT [l_a0, n_a1]) 4 v_0) 7 v_5) 8 v_7) 9 v_9) h10).bind (lpK k11)
theorem E_seq_has (call : FuncId → List AVal → Heap → Res AVal) (fuel : Nat) (l_a0 n_a1 : AVal) (h : Heap) : bodyR Try.prog call fuel Try.f19 [l_a0, n_a1] h = S_seq_has Try.prog call fuel l_a0 n_a1 h := by kernel_rfl
theorem R_seq_has {X : XTab} (l_a0 n_a1 : AVal) {h : Heap} {Q : AVal → Heap → Prop} (hx : X F_seq_has [l_a0, n_a1] = none) (q : Tells (fun m => S_seq_has Try.prog (acallX Try.prog X m) m l_a0 n_a1 h) Q) :
    Tells (fun m => acallX Try.prog X m F_seq_has [l_a0, n_a1] h) Q :=
  Tells.later (q.le fun m => (E_seq_has (acallX Try.prog X m) m l_a0 n_a1 h) ▸ acallX_le Try.func19 hx m h)


end Go.Proofs.Ytbkfamdkdjajjaa
