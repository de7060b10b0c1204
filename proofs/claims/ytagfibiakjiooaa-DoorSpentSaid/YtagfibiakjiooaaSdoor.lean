/-
  Functions of door in the form of YtagfibiakjiooaaABS (printed by a program of ours, gen.lean).
-/
import Derived.Test.YtagfibiakjiooaaSIds
set_option linter.unusedVariables false
namespace Go.Proofs.Ytagfibiakjiooaa
open Go.Ab
/-! ### precentor/door.New -/
def J_door_New_2 (P : Program) (call : FuncId → List AVal → Heap → Res AVal) (fuel : Nat) (k : Kn (AVal)) (t : T) (h : Heap) : Res (AVal) :=
arb (.val (t 7) h) call fun v_20 h21 =>
arb (.val v_20 h21) call fun v_22 h23 =>
arb (.val (.int .i64 0) h23) call fun v_24 h25 =>
k .ret (upd (upd (upd t 38 v_20) 4 v_22) 5 v_24) h25

def J_door_New_5 (P : Program) (call : FuncId → List AVal → Heap → Res AVal) (fuel : Nat) (k : Kn (Ex × T)) (t : T) (h : Heap) : Res (Ex × T) :=
arb (.of (aBin P .add 3 (.tmp 27) (.const (.int .i64 1)) (t 27) (.int .i64 1)) h) call fun v_32 h33 =>
arb (.val v_32 h33) call fun v_34 h35 =>
k .normal (upd (upd t 37 v_32) 27 v_34) h35

def J_door_New_4 (P : Program) (call : FuncId → List AVal → Heap → Res AVal) (fuel : Nat) (k : Kn (Ex × T)) (t : T) (h : Heap) : Res (Ex × T) :=
lt (sqK (J_door_New_5 P call fuel k) k) fun k36 =>
lt (blkK 1 k36) fun k37 =>
arb (.val (t 27) h) call fun v_38 h39 =>
arb (.val v_38 h39) call fun i_40 h41 =>
obv (.val (t 7) h41) fun v_42 =>
obv (.val i_40 h41) fun v_44 =>
obv (.of (fadR 5 (t 2)) h41) fun v_46 =>
obv (.of (ld1 h41 v_46) h41) fun v_48 => ifb true <|
obv (nckR v_42 h41) fun v_50 =>
obv (.of (fadR 7 v_50) h41) fun v_52 =>
obv (.of (ixpR 7 1 v_52 v_44) h41) fun v_54 =>
arbE (stR 1 h41 v_54 v_48) call fun v_56 h57 => lt h57 fun g57 => ifb (true && true) <|
k37 .normal (upd (upd (upd (upd (upd (upd (upd (upd (upd t 29 v_38) 8 i_40) 30 v_42) 31 v_44) 32 v_46) 33 v_48) 34 v_50) 35 v_52) 36 v_54) g57

def L_door_New_3 (P : Program) (call : FuncId → List AVal → Heap → Res AVal) (fuel : Nat) (t : T) (h : Heap) : Res (Ex × T) :=
lt okK fun k =>
arb (.of (aBin P .lss 3 (.tmp 27) (.const (.int .i64 7)) (t 27) (.int .i64 7)) h) call fun v_30 h31 =>
lt (sqK (J_door_New_4 P call fuel k) k) fun k58 =>
cb v_30 (
k58 .normal (upd t 28 v_30) h31) (
k58 (.exit 0) (upd t 28 v_30) h31)

def J_door_New_1 (P : Program) (call : FuncId → List AVal → Heap → Res AVal) (fuel : Nat) (k : Kn (AVal)) (t : T) (h : Heap) : Res (AVal) :=
arb (.of (fadR 0 (t 2)) h) call fun v_6 h7 =>
arb (stR 1 h7 v_6 .nils) call fun v_8 h9 =>
arb (.of (ldn 6 h9 (t 2)) h9) call fun v_10 h11 =>
arb (.val (t 1) h11) call fun v_12 h13 =>
arb (.of (bldR [.nils, (.int .i64 0), (.int .i64 0), (.int .i64 0), (.int .i64 0), (.int .i64 0), (.int .i64 0), (.int .i64 0), (.int .i64 0), (.int .i64 0), (.int .i64 0), (.int .i64 0), (.int .i64 0), (.int .i64 0), .nils, .nils] [(0, 6, v_10), (6, 1, v_12)]) h13) call fun v_14 h15 =>
arb (boxR v_14 h15) call fun v_16 h17 =>
arb (.val v_16 h17) call fun d_18 h19 =>
lt (sqK (J_door_New_2 P call fuel k) k) fun k26 =>
arb (.val (.int .i64 0) h19) call fun v_27 h28 =>
lt (blkK 0 k26) fun k29 =>
(loopN (L_door_New_3 P call fuel) fuel (upd (upd (upd (upd (upd (upd (upd t 22 v_6) 23 v_10) 24 v_12) 25 v_14) 26 v_16) 7 d_18) 27 v_27) h28).bind (lpK k29)

def J_door_New_0 (P : Program) (call : FuncId → List AVal → Heap → Res AVal) (fuel : Nat) (k : Kn (AVal)) (t : T) (h : Heap) : Res (AVal) :=
lt (sqK (J_door_New_1 P call fuel k) k) fun k59 =>
arb (.val (t 1) h) call fun v_60 h61 =>
arb (.of (aBin P .lss 3 (.tmp 14) (.const (.int .i64 0)) v_60 (.int .i64 0)) h61) call fun v_62 h63 =>
arb (.val v_62 h63) call fun v_64 h65 =>
gd (wantB v_64 false) (fun c => arb (.val (t 1) h65) call c) h65 fun v_66 h67 =>
gd (wantB v_64 false) (fun c => arb (.of (ldn 6 h67 (t 2)) h67) call c) h67 fun v_68 h69 =>
gd (wantB v_64 false) (fun c => arb (.call F_config_Brokers [v_68] h69) call c) h69 fun v_70 h71 =>
gd (wantB v_64 false) (fun c => arb (.of (aBin P .geq 3 (.tmp 17) (.tmp 19) v_66 v_70) h71) call c) h71 fun v_72 h73 =>
arb (pkR v_64 (.bool true) v_72 h73) call fun v_74 h75 =>
cb v_74 (
arb (.val .nilp h75) call fun v_76 h77 =>
arb (.val (.int .i64 4) h77) call fun v_78 h79 =>
k59 .ret (upd (upd (upd (upd (upd (upd (upd (upd (upd (upd t 14 v_60) 15 v_62) 16 v_64) 17 v_66) 18 v_68) 19 v_70) 20 v_72) 21 v_74) 4 v_76) 5 v_78) h79) (
k59 .normal (upd (upd (upd (upd (upd (upd (upd (upd t 14 v_60) 15 v_62) 16 v_64) 17 v_66) 18 v_68) 19 v_70) 20 v_72) 21 v_74) h75)

def S_door_New (P : Program) (call : FuncId → List AVal → Heap → Res AVal) (fuel : Nat) (c_a0 broker_a1 : AVal) (h : Heap) : Res AVal :=
lt (retK P [.tmp 4, .tmp 5]) fun k =>
arb (boxR c_a0 h) call fun c_0 h1 =>
arb (.val .nilp h1) call fun v_2 h3 =>
arb (.val (.int .i64 0) h3) call fun v_4 h5 =>
lt (sqK (J_door_New_0 P call fuel k) k) fun k80 =>
arb (.of (ldn 6 h5 c_0) h5) call fun v_81 h82 =>
arb (.call F_config_Check [v_81] h82) call fun v_83 h84 =>
arb (.val v_83 h84) call fun e_85 h86 =>
arb (.val e_85 h86) call fun v_87 h88 =>
arb (.of (aBin P .neq 28 (.tmp 11) (.const (.int .i64 0)) v_87 (.int .i64 0)) h88) call fun v_89 h90 =>
cb v_89 (
arb (.val e_85 h90) call fun v_91 h92 =>
arb (.val .nilp h92) call fun v_93 h94 =>
arb (.val v_91 h94) call fun v_95 h96 =>
k80 .ret (upd (upd (upd (upd (upd (upd (upd (upd (upd (upd (upd (enterT [c_a0, broker_a1]) 2 c_0) 4 v_2) 5 v_4) 9 v_81) 10 v_83) 6 e_85) 11 v_87) 12 v_89) 13 v_91) 4 v_93) 5 v_95) h96) (
k80 .normal (upd (upd (upd (upd (upd (upd (upd (upd (enterT [c_a0, broker_a1]) 2 c_0) 4 v_2) 5 v_4) 9 v_81) 10 v_83) 6 e_85) 11 v_87) 12 v_89) h90)
theorem E_door_New (call : FuncId → List AVal → Heap → Res AVal) (fuel : Nat) (c_a0 broker_a1 : AVal) (h : Heap) : bodyR Try.prog call fuel Try.f6 [c_a0, broker_a1] h = S_door_New Try.prog call fuel c_a0 broker_a1 h := by kernel_rfl
theorem R_door_New {X : XTab} (c_a0 broker_a1 : AVal) {h : Heap} {Q : AVal → Heap → Prop} (hx : X F_door_New [c_a0, broker_a1] = none) (q : Tells (fun m => S_door_New Try.prog (acallX Try.prog X m) m c_a0 broker_a1 h) Q) :
    Tells (fun m => acallX Try.prog X m F_door_New [c_a0, broker_a1] h) Q :=
  Tells.later (q.le fun m => (E_door_New (acallX Try.prog X m) m c_a0 broker_a1 h) ▸ acallX_le Try.func6 hx m h)

/-! ### (*precentor/door.Door).Offer -/
def J_door_Door_Offer_0 (P : Program) (call : FuncId → List AVal → Heap → Res AVal) (fuel : Nat) (k : Kn (AVal)) (t : T) (h : Heap) : Res (AVal) :=
obv (.val (t 0) h) fun v_4 =>
obv (.val (t 1) h) fun v_6 =>
obv (nckR v_4 h) fun v_8 =>
obv (.of (fadR 7 v_8) h) fun v_10 =>
obv (.of (ixpR 7 1 v_10 v_6) h) fun v_12 =>
obv (.of (ld1 h v_12) h) fun v_14 => ifb true <|
obv (.of (aBin P .add 3 (.tmp 44) (.const (.int .i64 1)) v_14 (.int .i64 1)) h) fun v_16 =>
obv (nckR v_4 h) fun v_18 =>
obv (.of (fadR 7 v_18) h) fun v_20 =>
obv (.of (ixpR 7 1 v_20 v_6) h) fun v_22 =>
arbE (stR 1 h v_22 v_16) call fun v_24 h25 => lt h25 fun g25 => ifb (true && true) <|
obv (.val (t 0) g25) fun v_26 =>
obv (.val (t 0) g25) fun v_28 =>
obv (nckR v_28 g25) fun v_30 =>
obv (.of (fadR 14 v_30) g25) fun v_32 =>
obv (.of (ld1 g25 v_32) g25) fun v_34 => ifb true <|
obv (.val (t 1) g25) fun v_36 =>
obv (.val (t 0) g25) fun v_38 =>
obv (nckR v_38 g25) fun v_40 =>
obv (.of (fadR 6 v_40) g25) fun v_42 =>
obv (.of (ld1 g25 v_42) g25) fun v_44 => ifb true <|
obv (.val (t 0) g25) fun v_46 =>
obv (.val (t 1) g25) fun v_48 =>
obv (nckR v_46 g25) fun v_50 =>
obv (.of (fadR 7 v_50) g25) fun v_52 =>
obv (.of (ixpR 7 1 v_52 v_48) g25) fun v_54 =>
obv (.of (ld1 g25 v_54) g25) fun v_56 => ifb true <|
obv (.val (t 2) g25) fun v_58 =>
arbE (.call F_attr_Copy [v_58] g25) call fun v_60 h61 => lt h61 fun g61 => ifb (true && (isV v_56 (arVal (.of (ld1 g61 v_54) g61)) && (isV v_44 (arVal (.of (ld1 g61 v_42) g61)) && (isV v_34 (arVal (.of (ld1 g61 v_32) g61)) && true)))) <|
obv (.of (bldR [(.int .i64 0), (.int .i64 0), (.int .i64 0), (.int .i64 0), (.int .i64 0), .nils, .nils] [(0, 1, v_36), (1, 1, v_44), (2, 1, v_56), (5, 1, v_60)]) g61) fun v_62 =>
arbV (bslR 7 [(.int .i64 0), (.int .i64 0), (.int .i64 0), (.int .i64 0), (.int .i64 0), .nils, .nils] 1 g61 [(0, 7, v_62)]) fun v_64 h65 =>
arbE (appR 7 88 h65 v_34 v_64) call fun v_66 h67 => lt h67 fun g67 => ifb (true && true) <|
obv (nckR v_26 g67) fun v_68 =>
obv (.of (fadR 14 v_68) g67) fun v_70 =>
arbE (stR 1 g67 v_70 v_66) call fun v_72 h73 => lt h73 fun g73 => ifb (true && true) <|
arb (.val (t 0) g73) call fun v_74 h75 =>
arb (.val (t 1) h75) call fun v_76 h77 =>
arb (nckR v_74 h77) call fun v_78 h79 =>
arb (.of (fadR 7 v_78) h79) call fun v_80 h81 =>
arb (.of (ixpR 7 1 v_80 v_76) h81) call fun v_82 h83 =>
arb (.of (ld1 h83 v_82) h83) call fun v_84 h85 =>
arb (.val v_84 h85) call fun v_86 h87 =>
arb (.val (.int .i64 0) h87) call fun v_88 h89 =>
k .ret (upd (upd (upd (upd (upd (upd (upd (upd (upd (upd (upd (upd (upd (upd (upd (upd (upd (upd (upd (upd (upd (upd (upd (upd (upd (upd (upd (upd (upd (upd (upd (upd (upd (upd (upd (upd (upd (upd (upd (upd (upd t 39 v_4) 40 v_6) 41 v_8) 42 v_10) 43 v_12) 44 v_14) 45 v_16) 46 v_18) 47 v_20) 48 v_22) 49 v_26) 50 v_28) 51 v_30) 52 v_32) 53 v_34) 54 v_36) 55 v_38) 56 v_40) 57 v_42) 58 v_44) 59 v_46) 60 v_48) 61 v_50) 62 v_52) 63 v_54) 64 v_56) 65 v_58) 66 v_60) 67 v_62) 68 v_64) 69 v_66) 70 v_68) 71 v_70) 72 v_74) 73 v_76) 74 v_78) 75 v_80) 76 v_82) 77 v_84) 6 v_86) 7 v_88) h89

def S_door_Door_Offer (P : Program) (call : FuncId → List AVal → Heap → Res AVal) (fuel : Nat) (d_a0 client_a1 a_a2 : AVal) (h : Heap) : Res AVal :=
lt (retK P [.tmp 6, .tmp 7]) fun k =>
arb (.val (.int .i64 0) h) call fun v_0 h1 =>
arb (.val (.int .i64 0) h1) call fun v_2 h3 =>
lt (sqK (J_door_Door_Offer_0 P call fuel k) k) fun k90 =>
lt (blkK 0 k90) fun k91 =>
arb (.val client_a1 h3) call fun v_92 h93 =>
arb (.of (aBin P .lss 3 (.tmp 9) (.const (.int .i64 1)) v_92 (.int .i64 1)) h93) call fun v_94 h95 =>
arb (.val v_94 h95) call fun v_96 h97 =>
gd (wantB v_96 false) (fun c => arb (.val client_a1 h97) call c) h97 fun v_98 h99 =>
gd (wantB v_96 false) (fun c => arb (.of (aBin P .gtr 3 (.tmp 12) (.const (.int .i64 6)) v_98 (.int .i64 6)) h99) call c) h99 fun v_100 h101 =>
arb (pkR v_96 (.bool true) v_100 h101) call fun v_102 h103 =>
arb (.val v_102 h103) call fun v_104 h105 =>
cb v_104 (
arb (.val (.int .i64 0) h105) call fun v_106 h107 =>
arb (.val (.int .i64 1) h107) call fun v_108 h109 =>
k91 .ret (upd (upd (upd (upd (upd (upd (upd (upd (upd (upd (upd (enterT [d_a0, client_a1, a_a2]) 6 v_0) 7 v_2) 9 v_92) 10 v_94) 11 v_96) 12 v_98) 13 v_100) 14 v_102) 8 v_104) 6 v_106) 7 v_108) h109) (
arb (.val a_a2 h105) call fun v_110 h111 =>
arb (.call F_attr_Right [v_110] h111) call fun v_112 h113 =>
arb (.of (aUn P .not v_112) h113) call fun v_114 h115 =>
arb (.val v_114 h115) call fun v_116 h117 =>
cb v_116 (
arb (.val (.int .i64 0) h117) call fun v_118 h119 =>
arb (.val (.int .i64 3) h119) call fun v_120 h121 =>
k91 .ret (upd (upd (upd (upd (upd (upd (upd (upd (upd (upd (upd (upd (upd (upd (upd (enterT [d_a0, client_a1, a_a2]) 6 v_0) 7 v_2) 9 v_92) 10 v_94) 11 v_96) 12 v_98) 13 v_100) 14 v_102) 8 v_104) 16 v_110) 17 v_112) 18 v_114) 15 v_116) 6 v_118) 7 v_120) h121) (
obv (.val d_a0 h117) fun v_122 =>
obv (nckR v_122 h117) fun v_123 =>
obv (.of (fadR 14 v_123) h117) fun v_124 =>
obv (.of (ld1 h117 v_124) h117) fun v_125 =>
obv (.of (lenL v_125) h117) fun v_126 =>
obv (.val d_a0 h117) fun v_127 =>
obv (nckR v_127 h117) fun v_128 =>
obv (.of (fadR 0 v_128) h117) fun v_129 =>
obv (.of (fadR 3 v_129) h117) fun v_130 =>
obv (.of (ld1 h117 v_130) h117) fun v_131 =>
obv (.of (aBin P .geq 3 (.tmp 24) (.tmp 29) v_126 v_131) h117) fun v_132 =>
obv (.val v_132 h117) fun v_133 =>
cb v_133 (
arb (.val (.int .i64 0) h117) call fun v_134 h135 =>
arb (.val (.int .i64 6) h135) call fun v_136 h137 =>
k91 .ret (upd (upd (upd (upd (upd (upd (upd (upd (upd (upd (upd (upd (upd (upd (upd (upd (upd (upd (upd (upd (upd (upd (upd (upd (upd (upd (upd (enterT [d_a0, client_a1, a_a2]) 6 v_0) 7 v_2) 9 v_92) 10 v_94) 11 v_96) 12 v_98) 13 v_100) 14 v_102) 8 v_104) 16 v_110) 17 v_112) 18 v_114) 15 v_116) 20 v_122) 21 v_123) 22 v_124) 23 v_125) 24 v_126) 25 v_127) 26 v_128) 27 v_129) 28 v_130) 29 v_131) 30 v_132) 19 v_133) 6 v_134) 7 v_136) h137) (
arb (.val d_a0 h117) call fun v_138 h139 =>
arb (.val client_a1 h139) call fun v_140 h141 =>
arb (nckR v_138 h141) call fun v_142 h143 =>
arb (.of (fadR 7 v_142) h143) call fun v_144 h145 =>
arb (.of (ixpR 7 1 v_144 v_140) h145) call fun v_146 h147 =>
arb (.of (ld1 h147 v_146) h147) call fun v_148 h149 =>
arb (.of (aBin P .geq 3 (.tmp 37) (.const (.int .i64 4611686018427387904)) v_148 (.int .i64 4611686018427387904)) h149) call fun v_150 h151 =>
arb (.val v_150 h151) call fun v_152 h153 =>
cb v_152 (
arb (.val (.int .i64 0) h153) call fun v_154 h155 =>
arb (.val (.int .i64 8) h155) call fun v_156 h157 =>
k91 .ret (upd (upd (upd (upd (upd (upd (upd (upd (upd (upd (upd (upd (upd (upd (upd (upd (upd (upd (upd (upd (upd (upd (upd (upd (upd (upd (upd (upd (upd (upd (upd (upd (upd (upd (upd (enterT [d_a0, client_a1, a_a2]) 6 v_0) 7 v_2) 9 v_92) 10 v_94) 11 v_96) 12 v_98) 13 v_100) 14 v_102) 8 v_104) 16 v_110) 17 v_112) 18 v_114) 15 v_116) 20 v_122) 21 v_123) 22 v_124) 23 v_125) 24 v_126) 25 v_127) 26 v_128) 27 v_129) 28 v_130) 29 v_131) 30 v_132) 19 v_133) 32 v_138) 33 v_140) 34 v_142) 35 v_144) 36 v_146) 37 v_148) 38 v_150) 31 v_152) 6 v_154) 7 v_156) h157) (
k91 .normal (upd (upd (upd (upd (upd (upd (upd (upd (upd (upd (upd (upd (upd (upd (upd (upd (upd (upd (upd (upd (upd (upd (upd (upd (upd (upd (upd (upd (upd (upd (upd (upd (upd (enterT [d_a0, client_a1, a_a2]) 6 v_0) 7 v_2) 9 v_92) 10 v_94) 11 v_96) 12 v_98) 13 v_100) 14 v_102) 8 v_104) 16 v_110) 17 v_112) 18 v_114) 15 v_116) 20 v_122) 21 v_123) 22 v_124) 23 v_125) 24 v_126) 25 v_127) 26 v_128) 27 v_129) 28 v_130) 29 v_131) 30 v_132) 19 v_133) 32 v_138) 33 v_140) 34 v_142) 35 v_144) 36 v_146) 37 v_148) 38 v_150) 31 v_152) h153))))
theorem E_door_Door_Offer (call : FuncId → List AVal → Heap → Res AVal) (fuel : Nat) (d_a0 client_a1 a_a2 : AVal) (h : Heap) : bodyR Try.prog call fuel Try.f8 [d_a0, client_a1, a_a2] h = S_door_Door_Offer Try.prog call fuel d_a0 client_a1 a_a2 h := by kernel_rfl
theorem R_door_Door_Offer {X : XTab} (d_a0 client_a1 a_a2 : AVal) {h : Heap} {Q : AVal → Heap → Prop} (hx : X F_door_Door_Offer [d_a0, client_a1, a_a2] = none) (q : Tells (fun m => S_door_Door_Offer Try.prog (acallX Try.prog X m) m d_a0 client_a1 a_a2 h) Q) :
    Tells (fun m => acallX Try.prog X m F_door_Door_Offer [d_a0, client_a1, a_a2] h) Q :=
  Tells.later (q.le fun m => (E_door_Door_Offer (acallX Try.prog X m) m d_a0 client_a1 a_a2 h) ▸ acallX_le Try.func8 hx m h)

/-! ### (*precentor/door.Door).Waiting -/

def S_door_Door_Waiting (P : Program) (call : FuncId → List AVal → Heap → Res AVal) (fuel : Nat) (d_a0 : AVal) (h : Heap) : Res AVal :=
lt (retK P [.tmp 2]) fun k =>
arb (.val (.int .i64 0) h) call fun v_0 h1 =>
arb (.val d_a0 h1) call fun v_2 h3 =>
arb (nckR v_2 h3) call fun v_4 h5 =>
arb (.of (fadR 14 v_4) h5) call fun v_6 h7 =>
arb (.of (ld1 h7 v_6) h7) call fun v_8 h9 =>
arb (.of (lenL v_8) h9) call fun v_10 h11 =>
arb (.val v_10 h11) call fun v_12 h13 =>
k .ret (upd (upd (upd (upd (upd (upd (upd (enterT [d_a0]) 2 v_0) 3 v_2) 4 v_4) 5 v_6) 6 v_8) 7 v_10) 2 v_12) h13
theorem E_door_Door_Waiting (call : FuncId → List AVal → Heap → Res AVal) (fuel : Nat) (d_a0 : AVal) (h : Heap) : bodyR Try.prog call fuel Try.f9 [d_a0] h = S_door_Door_Waiting Try.prog call fuel d_a0 h := by kernel_rfl
theorem R_door_Door_Waiting {X : XTab} (d_a0 : AVal) {h : Heap} {Q : AVal → Heap → Prop} (hx : X F_door_Door_Waiting [d_a0] = none) (q : Tells (fun m => S_door_Door_Waiting Try.prog (acallX Try.prog X m) m d_a0 h) Q) :
    Tells (fun m => acallX Try.prog X m F_door_Door_Waiting [d_a0] h) Q :=
  Tells.later (q.le fun m => (E_door_Door_Waiting (acallX Try.prog X m) m d_a0 h) ▸ acallX_le Try.func9 hx m h)

/-! ### (*precentor/door.Door).Next -/
def J_door_Door_Next_1 (P : Program) (call : FuncId → List AVal → Heap → Res AVal) (fuel : Nat) (k : Kn (AVal)) (t : T) (h : Heap) : Res (AVal) :=
arb (.of (bldR [(.int .i64 0), (.int .i64 0), (.int .i64 0), (.int .i64 0), (.int .i64 0), .nils, .nils] []) h) call fun v_4 h5 =>
arb (stR 7 h5 (t 4) v_4) call fun v_6 h7 =>
arb (.val (.bool false) h7) call fun v_8 h9 =>
k .ret (upd (upd t 70 v_4) 5 v_8) h9

def J_door_Door_Next_4 (P : Program) (call : FuncId → List AVal → Heap → Res AVal) (fuel : Nat) (k : Kn (Ex × T)) (t : T) (h : Heap) : Res (Ex × T) :=
arb (.of (aBin P .add 3 (.tmp 25) (.const (.int .i64 1)) (t 25) (.int .i64 1)) h) call fun v_26 h27 =>
arb (.val v_26 h27) call fun v_28 h29 =>
k .normal (upd (upd t 69 v_26) 25 v_28) h29

def J_door_Door_Next_5 (P : Program) (call : FuncId → List AVal → Heap → Res AVal) (fuel : Nat) (k : Kn (Ex × T)) (t : T) (h : Heap) : Res (Ex × T) :=
obv (.val (t 0) h) fun v_44 =>
obv (.val (t 0) h) fun v_46 =>
obv (nckR v_46 h) fun v_48 =>
obv (.of (fadR 14 v_48) h) fun v_50 =>
obv (.of (ld1 h v_50) h) fun v_52 => ifb true <|
obv (.val (t 6) h) fun v_54 =>
obv (.val (t 6) h) fun v_56 =>
obv (.of (slcR 7 v_52 none (some v_54) (some v_56)) h) fun v_58 =>
obv (.val (t 0) h) fun v_60 =>
obv (nckR v_60 h) fun v_62 =>
obv (.of (fadR 14 v_62) h) fun v_64 =>
obv (.of (ld1 h v_64) h) fun v_66 => ifb true <|
obv (.val (t 6) h) fun v_68 =>
obv (.of (aBin P .add 3 (.tmp 46) (.const (.int .i64 1)) v_68 (.int .i64 1)) h) fun v_70 =>
obv (.of (slcR 7 v_66 (some v_70) none none) h) fun v_72 =>
arbE (appR 7 88 h v_58 v_72) call fun v_74 h75 => lt h75 fun g75 => ifb (true && true) <|
obv (nckR v_44 g75) fun v_76 =>
obv (.of (fadR 14 v_76) g75) fun v_78 =>
arbE (stR 1 g75 v_78 v_74) call fun v_80 h81 => lt h81 fun g81 => ifb (true && true) <|
obv (.val (t 0) g81) fun v_82 =>
obv (.val (t 0) g81) fun v_84 =>
obv (nckR v_84 g81) fun v_86 =>
obv (.of (fadR 15 v_86) g81) fun v_88 =>
obv (.of (ld1 g81 v_88) g81) fun v_90 => ifb true <|
obv (.of (fadR 0 (t 7)) g81) fun v_92 =>
obv (.of (ld1 g81 v_92) g81) fun v_94 => ifb true <|
obv (.of (fadR 2 (t 7)) g81) fun v_96 =>
obv (.of (ld1 g81 v_96) g81) fun v_98 => ifb true <|
obv (.of (bldR [(.int .i64 0), (.int .i64 0), (.bool false), (.bool false), .nils] [(0, 1, v_94), (1, 1, v_98)]) g81) fun v_100 =>
arbV (bslR 5 [(.int .i64 0), (.int .i64 0), (.bool false), (.bool false), .nils] 1 g81 [(0, 5, v_100)]) fun v_102 h103 =>
arbE (appR 5 48 h103 v_90 v_102) call fun v_104 h105 => lt h105 fun g105 => ifb (true && true) <|
obv (nckR v_82 g105) fun v_106 =>
obv (.of (fadR 15 v_106) g105) fun v_108 =>
arbE (stR 1 g105 v_108 v_104) call fun v_110 h111 => lt h111 fun g111 => ifb (true && true) <|
arb (.val (t 1) g111) call fun v_112 h113 =>
arb (.of (fadR 3 (t 7)) h113) call fun v_114 h115 =>
arb (stR 1 h115 v_114 v_112) call fun v_116 h117 =>
arb (.of (ldn 7 h117 (t 7)) h117) call fun v_118 h119 =>
arb (stR 7 h119 (t 4) v_118) call fun v_120 h121 =>
arb (.val (.bool true) h121) call fun v_122 h123 =>
k .ret (upd (upd (upd (upd (upd (upd (upd (upd (upd (upd (upd (upd (upd (upd (upd (upd (upd (upd (upd (upd (upd (upd (upd (upd (upd (upd (upd (upd (upd (upd (upd (upd (upd (upd (upd (upd t 34 v_44) 35 v_46) 36 v_48) 37 v_50) 38 v_52) 39 v_54) 40 v_56) 41 v_58) 42 v_60) 43 v_62) 44 v_64) 45 v_66) 46 v_68) 47 v_70) 48 v_72) 49 v_74) 50 v_76) 51 v_78) 52 v_82) 53 v_84) 54 v_86) 55 v_88) 56 v_90) 57 v_92) 58 v_94) 59 v_96) 60 v_98) 61 v_100) 62 v_102) 63 v_104) 64 v_106) 65 v_108) 66 v_112) 67 v_114) 68 v_118) 5 v_122) h123

def J_door_Door_Next_3 (P : Program) (call : FuncId → List AVal → Heap → Res AVal) (fuel : Nat) (k : Kn (Ex × T)) (t : T) (h : Heap) : Res (Ex × T) :=
lt (sqK (J_door_Door_Next_4 P call fuel k) k) fun k30 =>
lt (blkK 1 k30) fun k31 =>
arb (.val (t 25) h) call fun v_32 h33 =>
arb (.of (ixsR 7 (t 23) (t 25)) h33) call fun v_34 h35 =>
arb (.of (ldn 7 h35 v_34) h35) call fun v_36 h37 =>
arb (newR [(.int .i64 0), (.int .i64 0), (.int .i64 0), (.int .i64 0), (.int .i64 0), .nils, .nils] h37) call fun e_38 h39 =>
arb (.val v_32 h39) call fun i_40 h41 =>
arb (stR 7 h41 e_38 v_36) call fun v_42 h43 =>
lt (sqK (J_door_Door_Next_5 P call fuel k31) k31) fun k124 =>
arb (.val (t 0) h43) call fun v_125 h126 =>
arb (.of (fadR 0 e_38) h126) call fun v_127 h128 =>
arb (.of (ld1 h128 v_127) h128) call fun v_129 h130 =>
arb (.call F_door_Door_rising [v_125, v_129] h130) call fun v_131 h132 =>
cb v_131 (
k124 (.exit 1) (upd (upd (upd (upd (upd (upd (upd (upd (upd t 27 v_32) 28 v_34) 29 v_36) 7 e_38) 6 i_40) 30 v_125) 31 v_127) 32 v_129) 33 v_131) h132) (
k124 .normal (upd (upd (upd (upd (upd (upd (upd (upd (upd t 27 v_32) 28 v_34) 29 v_36) 7 e_38) 6 i_40) 30 v_125) 31 v_127) 32 v_129) 33 v_131) h132)

def L_door_Door_Next_2 (P : Program) (call : FuncId → List AVal → Heap → Res AVal) (fuel : Nat) (t : T) (h : Heap) : Res (Ex × T) :=
lt okK fun k =>
arb (.of (aBin P .lss 3 (.tmp 25) (.tmp 24) (t 25) (t 24)) h) call fun v_24 h25 =>
lt (sqK (J_door_Door_Next_3 P call fuel k) k) fun k133 =>
cb v_24 (
k133 .normal (upd t 26 v_24) h25) (
k133 (.exit 0) (upd t 26 v_24) h25)

def J_door_Door_Next_0 (P : Program) (call : FuncId → List AVal → Heap → Res AVal) (fuel : Nat) (k : Kn (AVal)) (t : T) (h : Heap) : Res (AVal) :=
lt (sqK (J_door_Door_Next_1 P call fuel k) k) fun k10 =>
arb (.val (t 0) h) call fun v_11 h12 =>
arb (nckR v_11 h12) call fun v_13 h14 =>
arb (.of (fadR 14 v_13) h14) call fun v_15 h16 =>
arb (.of (ld1 h16 v_15) h16) call fun v_17 h18 =>
arb (.of (lenL v_17) h18) call fun v_19 h20 =>
arb (.val (.int .i64 0) h20) call fun v_21 h22 =>
lt (blkK 0 k10) fun k23 =>
(loopN (L_door_Door_Next_2 P call fuel) fuel (upd (upd (upd (upd (upd (upd t 20 v_11) 21 v_13) 22 v_15) 23 v_17) 24 v_19) 25 v_21) h22).bind (lpK k23)

theorem C_door_Door_Next_0 (h : Heap) (a : AVal) : aLoad Try.prog h 48 a = ldn 7 h a := by kernel_rfl
def S_door_Door_Next (P : Program) (call : FuncId → List AVal → Heap → Res AVal) (fuel : Nat) (d_a0 epoch_a1 : AVal) (h : Heap) : Res AVal :=
lt (retK P [.cell 4 48, .tmp 5]) fun k =>
arb (newR [(.int .i64 0), (.int .i64 0), (.int .i64 0), (.int .i64 0), (.int .i64 0), .nils, .nils] h) call fun v_0 h1 =>
arb (.val (.bool false) h1) call fun v_2 h3 =>
lt (sqK (J_door_Door_Next_0 P call fuel k) k) fun k134 =>
obv (.val d_a0 h3) fun v_135 =>
obv (nckR v_135 h3) fun v_136 =>
obv (.of (fadR 15 v_136) h3) fun v_137 =>
obv (.of (ld1 h3 v_137) h3) fun v_138 =>
obv (.of (lenL v_138) h3) fun v_139 =>
obv (.val d_a0 h3) fun v_140 =>
obv (nckR v_140 h3) fun v_141 =>
obv (.of (fadR 0 v_141) h3) fun v_142 =>
obv (.of (fadR 4 v_142) h3) fun v_143 =>
obv (.of (ld1 h3 v_143) h3) fun v_144 =>
obv (.of (aBin P .geq 3 (.tmp 12) (.tmp 17) v_139 v_144) h3) fun v_145 =>
cb v_145 (
arb (.of (bldR [(.int .i64 0), (.int .i64 0), (.int .i64 0), (.int .i64 0), (.int .i64 0), .nils, .nils] []) h3) call fun v_146 h147 =>
arb (stR 7 h147 v_0 v_146) call fun v_148 h149 =>
arb (.val (.bool false) h149) call fun v_150 h151 =>
k134 .ret (upd (upd (upd (upd (upd (upd (upd (upd (upd (upd (upd (upd (upd (upd (upd (enterT [d_a0, epoch_a1]) 4 v_0) 5 v_2) 8 v_135) 9 v_136) 10 v_137) 11 v_138) 12 v_139) 13 v_140) 14 v_141) 15 v_142) 16 v_143) 17 v_144) 18 v_145) 19 v_146) 5 v_150) h151) (
k134 .normal (upd (upd (upd (upd (upd (upd (upd (upd (upd (upd (upd (upd (upd (enterT [d_a0, epoch_a1]) 4 v_0) 5 v_2) 8 v_135) 9 v_136) 10 v_137) 11 v_138) 12 v_139) 13 v_140) 14 v_141) 15 v_142) 16 v_143) 17 v_144) 18 v_145) h3)
theorem E_door_Door_Next (call : FuncId → List AVal → Heap → Res AVal) (fuel : Nat) (d_a0 epoch_a1 : AVal) (h : Heap) : bodyR Try.prog call fuel Try.f16 [d_a0, epoch_a1] h = S_door_Door_Next Try.prog call fuel d_a0 epoch_a1 h := by kernel_rfl
theorem R_door_Door_Next {X : XTab} (d_a0 epoch_a1 : AVal) {h : Heap} {Q : AVal → Heap → Prop} (hx : X F_door_Door_Next [d_a0, epoch_a1] = none) (q : Tells (fun m => S_door_Door_Next Try.prog (acallX Try.prog X m) m d_a0 epoch_a1 h) Q) :
    Tells (fun m => acallX Try.prog X m F_door_Door_Next [d_a0, epoch_a1] h) Q :=
  Tells.later (q.le fun m => (E_door_Door_Next (acallX Try.prog X m) m d_a0 epoch_a1 h) ▸ acallX_le Try.func16 hx m h)

/-! ### (*precentor/door.Door).Live -/
def J_door_Door_Live_0 (P : Program) (call : FuncId → List AVal → Heap → Res AVal) (fuel : Nat) (k : Kn (AVal)) (t : T) (h : Heap) : Res (AVal) :=
arb (.val (t 3) h) call fun v_4 h5 =>
arb (.val v_4 h5) call fun v_6 h7 =>
k .ret (upd (upd t 24 v_4) 2 v_6) h7

def J_door_Door_Live_3 (P : Program) (call : FuncId → List AVal → Heap → Res AVal) (fuel : Nat) (k : Kn (Ex × T)) (t : T) (h : Heap) : Res (Ex × T) :=
arb (.of (aBin P .add 3 (.tmp 11) (.const (.int .i64 1)) (t 11) (.int .i64 1)) h) call fun v_24 h25 =>
arb (.val v_24 h25) call fun v_26 h27 =>
k .normal (upd (upd t 23 v_24) 11 v_26) h27

def J_door_Door_Live_2 (P : Program) (call : FuncId → List AVal → Heap → Res AVal) (fuel : Nat) (k : Kn (Ex × T)) (t : T) (h : Heap) : Res (Ex × T) :=
lt (sqK (J_door_Door_Live_3 P call fuel k) k) fun k28 =>
lt (blkK 1 k28) fun k29 =>
arb (.of (ixsR 5 (t 9) (t 11)) h) call fun v_30 h31 =>
arb (.of (ldn 5 h31 v_30) h31) call fun v_32 h33 =>
arb (newR [(.int .i64 0), (.int .i64 0), (.bool false), (.bool false), .nils] h33) call fun f_34 h35 =>
arb (stR 5 h35 f_34 v_32) call fun v_36 h37 =>
arb (.val (t 3) h37) call fun v_38 h39 =>
arb (.of (fadR 0 f_34) h39) call fun v_40 h41 =>
arb (.of (ld1 h41 v_40) h41) call fun v_42 h43 =>
arb (.of (fadR 1 f_34) h43) call fun v_44 h45 =>
arb (.of (ld1 h45 v_44) h45) call fun v_46 h47 =>
arb (.of (bldR [(.int .i64 0), (.int .i64 0)] [(0, 1, v_42), (1, 1, v_46)]) h47) call fun v_48 h49 =>
arb (bslR 2 [(.int .i64 0), (.int .i64 0)] 1 h49 [(0, 2, v_48)]) call fun v_50 h51 =>
arb (appR 2 16 h51 v_38 v_50) call fun v_52 h53 =>
arb (.val v_52 h53) call fun out_54 h55 =>
k29 .normal (upd (upd (upd (upd (upd (upd (upd (upd (upd (upd (upd (upd t 13 v_30) 14 v_32) 5 f_34) 15 v_38) 16 v_40) 17 v_42) 18 v_44) 19 v_46) 20 v_48) 21 v_50) 22 v_52) 3 out_54) h55

def L_door_Door_Live_1 (P : Program) (call : FuncId → List AVal → Heap → Res AVal) (fuel : Nat) (t : T) (h : Heap) : Res (Ex × T) :=
lt okK fun k =>
arb (.of (aBin P .lss 3 (.tmp 11) (.tmp 10) (t 11) (t 10)) h) call fun v_22 h23 =>
lt (sqK (J_door_Door_Live_2 P call fuel k) k) fun k56 =>
cb v_22 (
k56 .normal (upd t 12 v_22) h23) (
k56 (.exit 0) (upd t 12 v_22) h23)

def S_door_Door_Live (P : Program) (call : FuncId → List AVal → Heap → Res AVal) (fuel : Nat) (d_a0 : AVal) (h : Heap) : Res AVal :=
lt (retK P [.tmp 2]) fun k =>
arb (.val .nils h) call fun v_0 h1 =>
arb (.val .nils h1) call fun out_2 h3 =>
lt (sqK (J_door_Door_Live_0 P call fuel k) k) fun k8 =>
arb (.val d_a0 h3) call fun v_9 h10 =>
arb (nckR v_9 h10) call fun v_11 h12 =>
arb (.of (fadR 15 v_11) h12) call fun v_13 h14 =>
arb (.of (ld1 h14 v_13) h14) call fun v_15 h16 =>
arb (.of (lenL v_15) h16) call fun v_17 h18 =>
arb (.val (.int .i64 0) h18) call fun v_19 h20 =>
lt (blkK 0 k8) fun k21 =>
(loopN (L_door_Door_Live_1 P call fuel) fuel (upd (upd (upd (upd (upd (upd (upd (upd (enterT [d_a0]) 2 v_0) 3 out_2) 6 v_9) 7 v_11) 8 v_13) 9 v_15) 10 v_17) 11 v_19) h20).bind (lpK k21)
theorem E_door_Door_Live (call : FuncId → List AVal → Heap → Res AVal) (fuel : Nat) (d_a0 : AVal) (h : Heap) : bodyR Try.prog call fuel Try.f17 [d_a0] h = S_door_Door_Live Try.prog call fuel d_a0 h := by kernel_rfl
theorem R_door_Door_Live {X : XTab} (d_a0 : AVal) {h : Heap} {Q : AVal → Heap → Prop} (hx : X F_door_Door_Live [d_a0] = none) (q : Tells (fun m => S_door_Door_Live Try.prog (acallX Try.prog X m) m d_a0 h) Q) :
    Tells (fun m => acallX Try.prog X m F_door_Door_Live [d_a0] h) Q :=
  Tells.later (q.le fun m => (E_door_Door_Live (acallX Try.prog X m) m d_a0 h) ▸ acallX_le Try.func17 hx m h)

/-! ### (*precentor/door.Door).Enter -/
def J_door_Door_Enter_1 (P : Program) (call : FuncId → List AVal → Heap → Res AVal) (fuel : Nat) (k : Kn (AVal)) (t : T) (h : Heap) : Res (AVal) :=
arb (.val (t 0) h) call fun v_28 h29 =>
arb (.val (t 9) h29) call fun v_30 h31 =>
arb (.val (t 3) h31) call fun v_32 h33 =>
arb (.of (lenL v_32) h33) call fun v_34 h35 =>
arb (.of (aBin P .eql 3 (.tmp 74) (.const (.int .i64 0)) v_34 (.int .i64 0)) h35) call fun v_36 h37 =>
arb (.call F_door_Door_over [v_28, v_30, v_36] h37) call fun v_38 h39 =>
arb (.val (.bool true) h39) call fun v_40 h41 =>
k .ret (upd (upd (upd (upd (upd (upd (upd t 71 v_28) 72 v_30) 73 v_32) 74 v_34) 75 v_36) 76 v_38) 8 v_40) h41

def J_door_Door_Enter_4 (P : Program) (call : FuncId → List AVal → Heap → Res AVal) (fuel : Nat) (k : Kn (Ex × T)) (t : T) (h : Heap) : Res (Ex × T) :=
arb (.of (aBin P .add 3 (.tmp 37) (.const (.int .i64 1)) (t 37) (.int .i64 1)) h) call fun v_52 h53 =>
arb (.val v_52 h53) call fun v_54 h55 =>
k .normal (upd (upd t 70 v_52) 37 v_54) h55

def J_door_Door_Enter_3 (P : Program) (call : FuncId → List AVal → Heap → Res AVal) (fuel : Nat) (k : Kn (Ex × T)) (t : T) (h : Heap) : Res (Ex × T) :=
lt (sqK (J_door_Door_Enter_4 P call fuel k) k) fun k56 =>
lt (blkK 1 k56) fun k57 =>
arb (.of (ixsR 1 (t 35) (t 37)) h) call fun v_58 h59 =>
arb (.of (ld1 h59 v_58) h59) call fun v_60 h61 =>
arb (.val v_60 h61) call fun b_62 h63 =>
arb (.val (t 0) h63) call fun v_64 h65 =>
arb (nckR v_64 h65) call fun v_66 h67 =>
arb (.of (fadR 15 v_66) h67) call fun v_68 h69 =>
arb (.of (ld1 h69 v_68) h69) call fun v_70 h71 =>
arb (.val (t 9) h71) call fun v_72 h73 =>
arb (.of (ixsR 5 v_70 v_72) h73) call fun v_74 h75 =>
arb (.of (fadR 4 v_74) h75) call fun v_76 h77 =>
arb (.of (ld1 h77 v_76) h77) call fun v_78 h79 =>
arb (.val b_62 h79) call fun v_80 h81 =>
arb (.call F_door_has [v_78, v_80] h81) call fun v_82 h83 =>
arb (.of (aUn P .not v_82) h83) call fun v_84 h85 =>
cb v_84 (
obv (.val (t 0) h85) fun v_86 =>
obv (nckR v_86 h85) fun v_88 =>
obv (.of (fadR 15 v_88) h85) fun v_90 =>
obv (.of (ld1 h85 v_90) h85) fun v_92 => ifb true <|
obv (.val (t 9) h85) fun v_94 =>
obv (.val (t 0) h85) fun v_96 =>
obv (nckR v_96 h85) fun v_98 =>
obv (.of (fadR 15 v_98) h85) fun v_100 =>
obv (.of (ld1 h85 v_100) h85) fun v_102 => ifb true <|
obv (.val (t 9) h85) fun v_104 =>
obv (.of (ixsR 5 v_102 v_104) h85) fun v_106 =>
obv (.of (fadR 4 v_106) h85) fun v_108 =>
obv (.of (ld1 h85 v_108) h85) fun v_110 => ifb true <|
obv (.val b_62 h85) fun v_112 =>
arbV (bslR 1 [(.int .i64 0)] 1 h85 [(0, 1, v_112)]) fun v_114 h115 =>
arbE (appR 1 8 h115 v_110 v_114) call fun v_116 h117 => lt h117 fun g117 => ifb (true && (isV v_92 (arVal (.of (ld1 (killIf true g117 h85.next) v_90) (killIf true g117 h85.next))) && true)) <|
obv (.of (ixsR 5 v_92 v_94) g117) fun v_118 =>
obv (.of (fadR 4 v_118) g117) fun v_120 =>
arbE (stR 1 g117 v_120 v_116) call fun v_122 h123 => lt h123 fun g123 => ifb (true && true) <|
k57 .normal (upd (upd (upd (upd (upd (upd (upd (upd (upd (upd (upd (upd (upd (upd (upd (upd (upd (upd (upd (upd (upd (upd (upd (upd (upd (upd (upd (upd (upd (upd (upd (upd t 39 v_58) 40 v_60) 11 b_62) 41 v_64) 42 v_66) 43 v_68) 44 v_70) 45 v_72) 46 v_74) 47 v_76) 48 v_78) 49 v_80) 50 v_82) 51 v_84) 52 v_86) 53 v_88) 54 v_90) 55 v_92) 56 v_94) 57 v_96) 58 v_98) 59 v_100) 60 v_102) 61 v_104) 62 v_106) 63 v_108) 64 v_110) 65 v_112) 66 v_114) 67 v_116) 68 v_118) 69 v_120) g123) (
k57 .normal (upd (upd (upd (upd (upd (upd (upd (upd (upd (upd (upd (upd (upd (upd t 39 v_58) 40 v_60) 11 b_62) 41 v_64) 42 v_66) 43 v_68) 44 v_70) 45 v_72) 46 v_74) 47 v_76) 48 v_78) 49 v_80) 50 v_82) 51 v_84) h85)

def L_door_Door_Enter_2 (P : Program) (call : FuncId → List AVal → Heap → Res AVal) (fuel : Nat) (t : T) (h : Heap) : Res (Ex × T) :=
lt okK fun k =>
arb (.of (aBin P .lss 3 (.tmp 37) (.tmp 36) (t 37) (t 36)) h) call fun v_50 h51 =>
lt (sqK (J_door_Door_Enter_3 P call fuel k) k) fun k124 =>
cb v_50 (
k124 .normal (upd t 38 v_50) h51) (
k124 (.exit 0) (upd t 38 v_50) h51)

def J_door_Door_Enter_0 (P : Program) (call : FuncId → List AVal → Heap → Res AVal) (fuel : Nat) (k : Kn (AVal)) (t : T) (h : Heap) : Res (AVal) :=
arb (.val (t 0) h) call fun v_12 h13 =>
arb (nckR v_12 h13) call fun v_14 h15 =>
arb (.of (fadR 15 v_14) h15) call fun v_16 h17 =>
arb (.of (ld1 h17 v_16) h17) call fun v_18 h19 =>
arb (.val (t 9) h19) call fun v_20 h21 =>
arb (.of (ixsR 5 v_18 v_20) h21) call fun v_22 h23 =>
arb (.of (fadR 2 v_22) h23) call fun v_24 h25 =>
arb (stR 1 h25 v_24 (.bool true)) call fun v_26 h27 =>
lt (sqK (J_door_Door_Enter_1 P call fuel k) k) fun k42 =>
arb (.val (t 3) h27) call fun v_43 h44 =>
arb (.of (lenL v_43) h44) call fun v_45 h46 =>
arb (.val (.int .i64 0) h46) call fun v_47 h48 =>
lt (blkK 0 k42) fun k49 =>
(loopN (L_door_Door_Enter_2 P call fuel) fuel (upd (upd (upd (upd (upd (upd (upd (upd (upd (upd t 28 v_12) 29 v_14) 30 v_16) 31 v_18) 32 v_20) 33 v_22) 34 v_24) 35 v_43) 36 v_45) 37 v_47) h48).bind (lpK k49)

def S_door_Door_Enter (P : Program) (call : FuncId → List AVal → Heap → Res AVal) (fuel : Nat) (d_a0 client_a1 seq_a2 brokers_a3 : AVal) (h : Heap) : Res AVal :=
lt (retK P [.tmp 8]) fun k =>
arb (.val (.bool false) h) call fun v_0 h1 =>
arb (.val d_a0 h1) call fun v_2 h3 =>
arb (.val client_a1 h3) call fun v_4 h5 =>
arb (.val seq_a2 h5) call fun v_6 h7 =>
arb (.call F_door_Door_find [v_2, v_4, v_6] h7) call fun v_8 h9 =>
arb (.val v_8 h9) call fun i_10 h11 =>
lt (sqK (J_door_Door_Enter_0 P call fuel k) k) fun k125 =>
arb (.val i_10 h11) call fun v_126 h127 =>
arb (.of (aBin P .lss 3 (.tmp 16) (.const (.int .i64 0)) v_126 (.int .i64 0)) h127) call fun v_128 h129 =>
arb (.val v_128 h129) call fun v_130 h131 =>
gd (wantB v_130 false) (fun c => arb (.val d_a0 h131) call c) h131 fun v_132 h133 =>
gd (wantB v_130 false) (fun c => arb (nckR v_132 h133) call c) h133 fun v_134 h135 =>
gd (wantB v_130 false) (fun c => arb (.of (fadR 15 v_134) h135) call c) h135 fun v_136 h137 =>
gd (wantB v_130 false) (fun c => arb (.of (ld1 h137 v_136) h137) call c) h137 fun v_138 h139 =>
gd (wantB v_130 false) (fun c => arb (.val i_10 h139) call c) h139 fun v_140 h141 =>
gd (wantB v_130 false) (fun c => arb (.of (ixsR 5 v_138 v_140) h141) call c) h141 fun v_142 h143 =>
gd (wantB v_130 false) (fun c => arb (.of (fadR 2 v_142) h143) call c) h143 fun v_144 h145 =>
gd (wantB v_130 false) (fun c => arb (.of (ld1 h145 v_144) h145) call c) h145 fun v_146 h147 =>
arb (pkR v_130 (.bool true) v_146 h147) call fun v_148 h149 =>
cb v_148 (
arb (.val (.bool false) h149) call fun v_150 h151 =>
k125 .ret (upd (upd (upd (upd (upd (upd (upd (upd (upd (upd (upd (upd (upd (upd (upd (upd (upd (upd (upd (enterT [d_a0, client_a1, seq_a2, brokers_a3]) 8 v_0) 12 v_2) 13 v_4) 14 v_6) 15 v_8) 9 i_10) 16 v_126) 17 v_128) 18 v_130) 19 v_132) 20 v_134) 21 v_136) 22 v_138) 23 v_140) 24 v_142) 25 v_144) 26 v_146) 27 v_148) 8 v_150) h151) (
k125 .normal (upd (upd (upd (upd (upd (upd (upd (upd (upd (upd (upd (upd (upd (upd (upd (upd (upd (upd (enterT [d_a0, client_a1, seq_a2, brokers_a3]) 8 v_0) 12 v_2) 13 v_4) 14 v_6) 15 v_8) 9 i_10) 16 v_126) 17 v_128) 18 v_130) 19 v_132) 20 v_134) 21 v_136) 22 v_138) 23 v_140) 24 v_142) 25 v_144) 26 v_146) 27 v_148) h149)
theorem E_door_Door_Enter (call : FuncId → List AVal → Heap → Res AVal) (fuel : Nat) (d_a0 client_a1 seq_a2 brokers_a3 : AVal) (h : Heap) : bodyR Try.prog call fuel Try.f18 [d_a0, client_a1, seq_a2, brokers_a3] h = S_door_Door_Enter Try.prog call fuel d_a0 client_a1 seq_a2 brokers_a3 h := by kernel_rfl
theorem R_door_Door_Enter {X : XTab} (d_a0 client_a1 seq_a2 brokers_a3 : AVal) {h : Heap} {Q : AVal → Heap → Prop} (hx : X F_door_Door_Enter [d_a0, client_a1, seq_a2, brokers_a3] = none) (q : Tells (fun m => S_door_Door_Enter Try.prog (acallX Try.prog X m) m d_a0 client_a1 seq_a2 brokers_a3 h) Q) :
    Tells (fun m => acallX Try.prog X m F_door_Door_Enter [d_a0, client_a1, seq_a2, brokers_a3] h) Q :=
  Tells.later (q.le fun m => (E_door_Door_Enter (acallX Try.prog X m) m d_a0 client_a1 seq_a2 brokers_a3 h) ▸ acallX_le Try.func18 hx m h)

/-! ### (*precentor/door.Door).Passed -/
def J_door_Door_Passed_0 (P : Program) (call : FuncId → List AVal → Heap → Res AVal) (fuel : Nat) (k : Kn (AVal)) (t : T) (h : Heap) : Res (AVal) :=
arb (.val (t 0) h) call fun v_12 h13 =>
arb (nckR v_12 h13) call fun v_14 h15 =>
arb (.of (fadR 15 v_14) h15) call fun v_16 h17 =>
arb (.of (ld1 h17 v_16) h17) call fun v_18 h19 =>
arb (.val (t 7) h19) call fun v_20 h21 =>
arb (.of (ixsR 5 v_18 v_20) h21) call fun v_22 h23 =>
arb (.of (fadR 3 v_22) h23) call fun v_24 h25 =>
arb (stR 1 h25 v_24 (.bool true)) call fun v_26 h27 =>
arb (.val (t 0) h27) call fun v_28 h29 =>
arb (.val (t 7) h29) call fun v_30 h31 =>
arb (.call F_door_Door_over [v_28, v_30, (.bool false)] h31) call fun v_32 h33 =>
arb (.val (.bool true) h33) call fun v_34 h35 =>
k .ret (upd (upd (upd (upd (upd (upd (upd (upd (upd (upd (upd t 24 v_12) 25 v_14) 26 v_16) 27 v_18) 28 v_20) 29 v_22) 30 v_24) 31 v_28) 32 v_30) 33 v_32) 6 v_34) h35

def S_door_Door_Passed (P : Program) (call : FuncId → List AVal → Heap → Res AVal) (fuel : Nat) (d_a0 client_a1 seq_a2 : AVal) (h : Heap) : Res AVal :=
lt (retK P [.tmp 6]) fun k =>
arb (.val (.bool false) h) call fun v_0 h1 =>
arb (.val d_a0 h1) call fun v_2 h3 =>
arb (.val client_a1 h3) call fun v_4 h5 =>
arb (.val seq_a2 h5) call fun v_6 h7 =>
arb (.call F_door_Door_find [v_2, v_4, v_6] h7) call fun v_8 h9 =>
arb (.val v_8 h9) call fun i_10 h11 =>
lt (sqK (J_door_Door_Passed_0 P call fuel k) k) fun k36 =>
arb (.val i_10 h11) call fun v_37 h38 =>
arb (.of (aBin P .lss 3 (.tmp 12) (.const (.int .i64 0)) v_37 (.int .i64 0)) h38) call fun v_39 h40 =>
arb (.val v_39 h40) call fun v_41 h42 =>
gd (wantB v_41 false) (fun c => arb (.val d_a0 h42) call c) h42 fun v_43 h44 =>
gd (wantB v_41 false) (fun c => arb (nckR v_43 h44) call c) h44 fun v_45 h46 =>
gd (wantB v_41 false) (fun c => arb (.of (fadR 15 v_45) h46) call c) h46 fun v_47 h48 =>
gd (wantB v_41 false) (fun c => arb (.of (ld1 h48 v_47) h48) call c) h48 fun v_49 h50 =>
gd (wantB v_41 false) (fun c => arb (.val i_10 h50) call c) h50 fun v_51 h52 =>
gd (wantB v_41 false) (fun c => arb (.of (ixsR 5 v_49 v_51) h52) call c) h52 fun v_53 h54 =>
gd (wantB v_41 false) (fun c => arb (.of (fadR 3 v_53) h54) call c) h54 fun v_55 h56 =>
gd (wantB v_41 false) (fun c => arb (.of (ld1 h56 v_55) h56) call c) h56 fun v_57 h58 =>
arb (pkR v_41 (.bool true) v_57 h58) call fun v_59 h60 =>
cb v_59 (
arb (.val (.bool false) h60) call fun v_61 h62 =>
k36 .ret (upd (upd (upd (upd (upd (upd (upd (upd (upd (upd (upd (upd (upd (upd (upd (upd (upd (upd (upd (enterT [d_a0, client_a1, seq_a2]) 6 v_0) 8 v_2) 9 v_4) 10 v_6) 11 v_8) 7 i_10) 12 v_37) 13 v_39) 14 v_41) 15 v_43) 16 v_45) 17 v_47) 18 v_49) 19 v_51) 20 v_53) 21 v_55) 22 v_57) 23 v_59) 6 v_61) h62) (
k36 .normal (upd (upd (upd (upd (upd (upd (upd (upd (upd (upd (upd (upd (upd (upd (upd (upd (upd (upd (enterT [d_a0, client_a1, seq_a2]) 6 v_0) 8 v_2) 9 v_4) 10 v_6) 11 v_8) 7 i_10) 12 v_37) 13 v_39) 14 v_41) 15 v_43) 16 v_45) 17 v_47) 18 v_49) 19 v_51) 20 v_53) 21 v_55) 22 v_57) 23 v_59) h60)
theorem E_door_Door_Passed (call : FuncId → List AVal → Heap → Res AVal) (fuel : Nat) (d_a0 client_a1 seq_a2 : AVal) (h : Heap) : bodyR Try.prog call fuel Try.f19 [d_a0, client_a1, seq_a2] h = S_door_Door_Passed Try.prog call fuel d_a0 client_a1 seq_a2 h := by kernel_rfl
theorem R_door_Door_Passed {X : XTab} (d_a0 client_a1 seq_a2 : AVal) {h : Heap} {Q : AVal → Heap → Prop} (hx : X F_door_Door_Passed [d_a0, client_a1, seq_a2] = none) (q : Tells (fun m => S_door_Door_Passed Try.prog (acallX Try.prog X m) m d_a0 client_a1 seq_a2 h) Q) :
    Tells (fun m => acallX Try.prog X m F_door_Door_Passed [d_a0, client_a1, seq_a2] h) Q :=
  Tells.later (q.le fun m => (E_door_Door_Passed (acallX Try.prog X m) m d_a0 client_a1 seq_a2 h) ▸ acallX_le Try.func19 hx m h)

/-! ### (*precentor/door.Door).Done -/
def J_door_Door_Done_1 (P : Program) (call : FuncId → List AVal → Heap → Res AVal) (fuel : Nat) (k : Kn (AVal)) (t : T) (h : Heap) : Res (AVal) :=
arb (.val (t 0) h) call fun v_14 h15 =>
arb (nckR v_14 h15) call fun v_16 h17 =>
arb (.of (fadR 15 v_16) h17) call fun v_18 h19 =>
arb (.of (ld1 h19 v_18) h19) call fun v_20 h21 =>
arb (.val (t 9) h21) call fun v_22 h23 =>
arb (.val (t 10) h23) call fun v_24 h25 =>
arb (.of (ixsR 5 v_20 v_22) h25) call fun v_26 h27 =>
arb (.of (fadR 4 v_26) h27) call fun v_28 h29 =>
arb (stR 1 h29 v_28 v_24) call fun v_30 h31 =>
arb (.val (t 0) h31) call fun v_32 h33 =>
arb (.val (t 9) h33) call fun v_34 h35 =>
arb (.call F_door_Door_over [v_32, v_34, (.bool false)] h35) call fun v_36 h37 =>
arb (.val (.bool true) h37) call fun v_38 h39 =>
k .ret (upd (upd (upd (upd (upd (upd (upd (upd (upd (upd (upd (upd t 53 v_14) 54 v_16) 55 v_18) 56 v_20) 57 v_22) 58 v_24) 59 v_26) 60 v_28) 61 v_32) 62 v_34) 63 v_36) 8 v_38) h39

def J_door_Door_Done_4 (P : Program) (call : FuncId → List AVal → Heap → Res AVal) (fuel : Nat) (k : Kn (Ex × T)) (t : T) (h : Heap) : Res (Ex × T) :=
arb (.of (aBin P .add 3 (.tmp 41) (.const (.int .i64 1)) (t 41) (.int .i64 1)) h) call fun v_64 h65 =>
arb (.val v_64 h65) call fun v_66 h67 =>
k .normal (upd (upd t 52 v_64) 41 v_66) h67

def J_door_Door_Done_3 (P : Program) (call : FuncId → List AVal → Heap → Res AVal) (fuel : Nat) (k : Kn (Ex × T)) (t : T) (h : Heap) : Res (Ex × T) :=
lt (sqK (J_door_Door_Done_4 P call fuel k) k) fun k68 =>
lt (blkK 1 k68) fun k69 =>
arb (.of (ixsR 1 (t 39) (t 41)) h) call fun v_70 h71 =>
arb (.of (ld1 h71 v_70) h71) call fun v_72 h73 =>
arb (.val v_72 h73) call fun b_74 h75 =>
arb (.val b_74 h75) call fun v_76 h77 =>
arb (.val (t 3) h77) call fun v_78 h79 =>
arb (.of (aBin P .neq 3 (.tmp 45) (.tmp 46) v_76 v_78) h79) call fun v_80 h81 =>
cb v_80 (
arb (.val (t 10) h81) call fun v_82 h83 =>
arb (.val b_74 h83) call fun v_84 h85 =>
arb (bslR 1 [(.int .i64 0)] 1 h85 [(0, 1, v_84)]) call fun v_86 h87 =>
arb (appR 1 8 h87 v_82 v_86) call fun v_88 h89 =>
arb (.val v_88 h89) call fun left_90 h91 =>
k69 .normal (upd (upd (upd (upd (upd (upd (upd (upd (upd (upd (upd t 43 v_70) 44 v_72) 12 b_74) 45 v_76) 46 v_78) 47 v_80) 48 v_82) 49 v_84) 50 v_86) 51 v_88) 10 left_90) h91) (
k69 .normal (upd (upd (upd (upd (upd (upd t 43 v_70) 44 v_72) 12 b_74) 45 v_76) 46 v_78) 47 v_80) h81)

def L_door_Door_Done_2 (P : Program) (call : FuncId → List AVal → Heap → Res AVal) (fuel : Nat) (t : T) (h : Heap) : Res (Ex × T) :=
lt okK fun k =>
arb (.of (aBin P .lss 3 (.tmp 41) (.tmp 40) (t 41) (t 40)) h) call fun v_62 h63 =>
lt (sqK (J_door_Door_Done_3 P call fuel k) k) fun k92 =>
cb v_62 (
k92 .normal (upd t 42 v_62) h63) (
k92 (.exit 0) (upd t 42 v_62) h63)

def J_door_Door_Done_0 (P : Program) (call : FuncId → List AVal → Heap → Res AVal) (fuel : Nat) (k : Kn (AVal)) (t : T) (h : Heap) : Res (AVal) :=
arb (.val .nils h) call fun left_12 h13 =>
lt (sqK (J_door_Door_Done_1 P call fuel k) k) fun k40 =>
arb (.val (t 0) h13) call fun v_41 h42 =>
arb (nckR v_41 h42) call fun v_43 h44 =>
arb (.of (fadR 15 v_43) h44) call fun v_45 h46 =>
arb (.of (ld1 h46 v_45) h46) call fun v_47 h48 =>
arb (.val (t 9) h48) call fun v_49 h50 =>
arb (.of (ixsR 5 v_47 v_49) h50) call fun v_51 h52 =>
arb (.of (fadR 4 v_51) h52) call fun v_53 h54 =>
arb (.of (ld1 h54 v_53) h54) call fun v_55 h56 =>
arb (.of (lenL v_55) h56) call fun v_57 h58 =>
arb (.val (.int .i64 0) h58) call fun v_59 h60 =>
lt (blkK 0 k40) fun k61 =>
(loopN (L_door_Door_Done_2 P call fuel) fuel (upd (upd (upd (upd (upd (upd (upd (upd (upd (upd (upd t 10 left_12) 32 v_41) 33 v_43) 34 v_45) 35 v_47) 36 v_49) 37 v_51) 38 v_53) 39 v_55) 40 v_57) 41 v_59) h60).bind (lpK k61)

def S_door_Door_Done (P : Program) (call : FuncId → List AVal → Heap → Res AVal) (fuel : Nat) (d_a0 client_a1 seq_a2 broker_a3 : AVal) (h : Heap) : Res AVal :=
lt (retK P [.tmp 8]) fun k =>
arb (.val (.bool false) h) call fun v_0 h1 =>
arb (.val d_a0 h1) call fun v_2 h3 =>
arb (.val client_a1 h3) call fun v_4 h5 =>
arb (.val seq_a2 h5) call fun v_6 h7 =>
arb (.call F_door_Door_find [v_2, v_4, v_6] h7) call fun v_8 h9 =>
arb (.val v_8 h9) call fun i_10 h11 =>
lt (sqK (J_door_Door_Done_0 P call fuel k) k) fun k93 =>
arb (.val i_10 h11) call fun v_94 h95 =>
arb (.of (aBin P .lss 3 (.tmp 17) (.const (.int .i64 0)) v_94 (.int .i64 0)) h95) call fun v_96 h97 =>
arb (.val v_96 h97) call fun v_98 h99 =>
gd (wantB v_98 false) (fun c => arb (.val d_a0 h99) call c) h99 fun v_100 h101 =>
gd (wantB v_98 false) (fun c => arb (nckR v_100 h101) call c) h101 fun v_102 h103 =>
gd (wantB v_98 false) (fun c => arb (.of (fadR 15 v_102) h103) call c) h103 fun v_104 h105 =>
gd (wantB v_98 false) (fun c => arb (.of (ld1 h105 v_104) h105) call c) h105 fun v_106 h107 =>
gd (wantB v_98 false) (fun c => arb (.val i_10 h107) call c) h107 fun v_108 h109 =>
gd (wantB v_98 false) (fun c => arb (.of (ixsR 5 v_106 v_108) h109) call c) h109 fun v_110 h111 =>
gd (wantB v_98 false) (fun c => arb (.of (fadR 4 v_110) h111) call c) h111 fun v_112 h113 =>
gd (wantB v_98 false) (fun c => arb (.of (ld1 h113 v_112) h113) call c) h113 fun v_114 h115 =>
gd (wantB v_98 false) (fun c => arb (.val broker_a3 h115) call c) h115 fun v_116 h117 =>
gd (wantB v_98 false) (fun c => arb (.call F_door_has [v_114, v_116] h117) call c) h117 fun v_118 h119 =>
gd (wantB v_98 false) (fun c => arb (.of (aUn P .not v_118) h119) call c) h119 fun v_120 h121 =>
arb (pkR v_98 (.bool true) v_120 h121) call fun v_122 h123 =>
cb v_122 (
arb (.val (.bool false) h123) call fun v_124 h125 =>
k93 .ret (upd (upd (upd (upd (upd (upd (upd (upd (upd (upd (upd (upd (upd (upd (upd (upd (upd (upd (upd (upd (upd (upd (enterT [d_a0, client_a1, seq_a2, broker_a3]) 8 v_0) 13 v_2) 14 v_4) 15 v_6) 16 v_8) 9 i_10) 17 v_94) 18 v_96) 19 v_98) 20 v_100) 21 v_102) 22 v_104) 23 v_106) 24 v_108) 25 v_110) 26 v_112) 27 v_114) 28 v_116) 29 v_118) 30 v_120) 31 v_122) 8 v_124) h125) (
k93 .normal (upd (upd (upd (upd (upd (upd (upd (upd (upd (upd (upd (upd (upd (upd (upd (upd (upd (upd (upd (upd (upd (enterT [d_a0, client_a1, seq_a2, broker_a3]) 8 v_0) 13 v_2) 14 v_4) 15 v_6) 16 v_8) 9 i_10) 17 v_94) 18 v_96) 19 v_98) 20 v_100) 21 v_102) 22 v_104) 23 v_106) 24 v_108) 25 v_110) 26 v_112) 27 v_114) 28 v_116) 29 v_118) 30 v_120) 31 v_122) h123)
theorem E_door_Door_Done (call : FuncId → List AVal → Heap → Res AVal) (fuel : Nat) (d_a0 client_a1 seq_a2 broker_a3 : AVal) (h : Heap) : bodyR Try.prog call fuel Try.f20 [d_a0, client_a1, seq_a2, broker_a3] h = S_door_Door_Done Try.prog call fuel d_a0 client_a1 seq_a2 broker_a3 h := by kernel_rfl
theorem R_door_Door_Done {X : XTab} (d_a0 client_a1 seq_a2 broker_a3 : AVal) {h : Heap} {Q : AVal → Heap → Prop} (hx : X F_door_Door_Done [d_a0, client_a1, seq_a2, broker_a3] = none) (q : Tells (fun m => S_door_Door_Done Try.prog (acallX Try.prog X m) m d_a0 client_a1 seq_a2 broker_a3 h) Q) :
    Tells (fun m => acallX Try.prog X m F_door_Door_Done [d_a0, client_a1, seq_a2, broker_a3] h) Q :=
  Tells.later (q.le fun m => (E_door_Door_Done (acallX Try.prog X m) m d_a0 client_a1 seq_a2 broker_a3 h) ▸ acallX_le Try.func20 hx m h)

/-! ### (*precentor/door.Door).rising -/
def J_door_Door_rising_0 (P : Program) (call : FuncId → List AVal → Heap → Res AVal) (fuel : Nat) (k : Kn (AVal)) (t : T) (h : Heap) : Res (AVal) :=
arb (.val (.bool false) h) call fun v_2 h3 =>
k .ret (upd t 4 v_2) h3

def J_door_Door_rising_3 (P : Program) (call : FuncId → List AVal → Heap → Res AVal) (fuel : Nat) (k : Kn (Ex × T)) (t : T) (h : Heap) : Res (Ex × T) :=
arb (.of (aBin P .add 3 (.tmp 12) (.const (.int .i64 1)) (t 12) (.int .i64 1)) h) call fun v_20 h21 =>
arb (.val v_20 h21) call fun v_22 h23 =>
k .normal (upd (upd t 25 v_20) 12 v_22) h23

def J_door_Door_rising_2 (P : Program) (call : FuncId → List AVal → Heap → Res AVal) (fuel : Nat) (k : Kn (Ex × T)) (t : T) (h : Heap) : Res (Ex × T) :=
lt (sqK (J_door_Door_rising_3 P call fuel k) k) fun k24 =>
lt (blkK 1 k24) fun k25 =>
arb (.of (ixsR 5 (t 10) (t 12)) h) call fun v_26 h27 =>
arb (.of (ldn 5 h27 v_26) h27) call fun v_28 h29 =>
arb (newR [(.int .i64 0), (.int .i64 0), (.bool false), (.bool false), .nils] h29) call fun f_30 h31 =>
arb (stR 5 h31 f_30 v_28) call fun v_32 h33 =>
arb (.of (fadR 0 f_30) h33) call fun v_34 h35 =>
arb (.of (ld1 h35 v_34) h35) call fun v_36 h37 =>
arb (.val (t 1) h37) call fun v_38 h39 =>
arb (.of (aBin P .eql 3 (.tmp 17) (.tmp 18) v_36 v_38) h39) call fun v_40 h41 =>
arb (.val v_40 h41) call fun v_42 h43 =>
gd (wantB v_42 true) (fun c => arb (.of (fadR 3 f_30) h43) call c) h43 fun v_44 h45 =>
gd (wantB v_42 true) (fun c => arb (.of (ld1 h45 v_44) h45) call c) h45 fun v_46 h47 =>
gd (wantB v_42 true) (fun c => arb (.of (aUn P .not v_46) h47) call c) h47 fun v_48 h49 =>
arb (pkR v_42 v_48 (.bool false) h49) call fun v_50 h51 =>
cb v_50 (
arb (.val (.bool true) h51) call fun v_52 h53 =>
k25 .ret (upd (upd (upd (upd (upd (upd (upd (upd (upd (upd (upd (upd (upd t 14 v_26) 15 v_28) 6 f_30) 16 v_34) 17 v_36) 18 v_38) 19 v_40) 20 v_42) 21 v_44) 22 v_46) 23 v_48) 24 v_50) 4 v_52) h53) (
k25 .normal (upd (upd (upd (upd (upd (upd (upd (upd (upd (upd (upd (upd t 14 v_26) 15 v_28) 6 f_30) 16 v_34) 17 v_36) 18 v_38) 19 v_40) 20 v_42) 21 v_44) 22 v_46) 23 v_48) 24 v_50) h51)

def L_door_Door_rising_1 (P : Program) (call : FuncId → List AVal → Heap → Res AVal) (fuel : Nat) (t : T) (h : Heap) : Res (Ex × T) :=
lt okK fun k =>
arb (.of (aBin P .lss 3 (.tmp 12) (.tmp 11) (t 12) (t 11)) h) call fun v_18 h19 =>
lt (sqK (J_door_Door_rising_2 P call fuel k) k) fun k54 =>
cb v_18 (
k54 .normal (upd t 13 v_18) h19) (
k54 (.exit 0) (upd t 13 v_18) h19)

def S_door_Door_rising (P : Program) (call : FuncId → List AVal → Heap → Res AVal) (fuel : Nat) (d_a0 client_a1 : AVal) (h : Heap) : Res AVal :=
lt (retK P [.tmp 4]) fun k =>
arb (.val (.bool false) h) call fun v_0 h1 =>
lt (sqK (J_door_Door_rising_0 P call fuel k) k) fun k4 =>
arb (.val d_a0 h1) call fun v_5 h6 =>
arb (nckR v_5 h6) call fun v_7 h8 =>
arb (.of (fadR 15 v_7) h8) call fun v_9 h10 =>
arb (.of (ld1 h10 v_9) h10) call fun v_11 h12 =>
arb (.of (lenL v_11) h12) call fun v_13 h14 =>
arb (.val (.int .i64 0) h14) call fun v_15 h16 =>
lt (blkK 0 k4) fun k17 =>
(loopN (L_door_Door_rising_1 P call fuel) fuel (upd (upd (upd (upd (upd (upd (upd (enterT [d_a0, client_a1]) 4 v_0) 7 v_5) 8 v_7) 9 v_9) 10 v_11) 11 v_13) 12 v_15) h16).bind (lpK k17)
theorem E_door_Door_rising (call : FuncId → List AVal → Heap → Res AVal) (fuel : Nat) (d_a0 client_a1 : AVal) (h : Heap) : bodyR Try.prog call fuel Try.f23 [d_a0, client_a1] h = S_door_Door_rising Try.prog call fuel d_a0 client_a1 h := by kernel_rfl
theorem R_door_Door_rising {X : XTab} (d_a0 client_a1 : AVal) {h : Heap} {Q : AVal → Heap → Prop} (hx : X F_door_Door_rising [d_a0, client_a1] = none) (q : Tells (fun m => S_door_Door_rising Try.prog (acallX Try.prog X m) m d_a0 client_a1 h) Q) :
    Tells (fun m => acallX Try.prog X m F_door_Door_rising [d_a0, client_a1] h) Q :=
  Tells.later (q.le fun m => (E_door_Door_rising (acallX Try.prog X m) m d_a0 client_a1 h) ▸ acallX_le Try.func23 hx m h)

/-! ### (*precentor/door.Door).find -/
def J_door_Door_find_0 (P : Program) (call : FuncId → List AVal → Heap → Res AVal) (fuel : Nat) (k : Kn (AVal)) (t : T) (h : Heap) : Res (AVal) :=
arb (.val (.int .i64 (-1)) h) call fun v_2 h3 =>
k .ret (upd t 6 v_2) h3

def J_door_Door_find_3 (P : Program) (call : FuncId → List AVal → Heap → Res AVal) (fuel : Nat) (k : Kn (Ex × T)) (t : T) (h : Heap) : Res (Ex × T) :=
arb (.of (aBin P .add 3 (.tmp 14) (.const (.int .i64 1)) (t 14) (.int .i64 1)) h) call fun v_20 h21 =>
arb (.val v_20 h21) call fun v_22 h23 =>
k .normal (upd (upd t 30 v_20) 14 v_22) h23

def J_door_Door_find_2 (P : Program) (call : FuncId → List AVal → Heap → Res AVal) (fuel : Nat) (k : Kn (Ex × T)) (t : T) (h : Heap) : Res (Ex × T) :=
lt (sqK (J_door_Door_find_3 P call fuel k) k) fun k24 =>
lt (blkK 1 k24) fun k25 =>
arb (.val (t 14) h) call fun v_26 h27 =>
arb (.of (ixsR 5 (t 12) (t 14)) h27) call fun v_28 h29 =>
arb (.of (ldn 5 h29 v_28) h29) call fun v_30 h31 =>
arb (newR [(.int .i64 0), (.int .i64 0), (.bool false), (.bool false), .nils] h31) call fun f_32 h33 =>
arb (.val v_26 h33) call fun i_34 h35 =>
arb (stR 5 h35 f_32 v_30) call fun v_36 h37 =>
arb (.of (fadR 0 f_32) h37) call fun v_38 h39 =>
arb (.of (ld1 h39 v_38) h39) call fun v_40 h41 =>
arb (.val (t 1) h41) call fun v_42 h43 =>
arb (.of (aBin P .eql 3 (.tmp 20) (.tmp 21) v_40 v_42) h43) call fun v_44 h45 =>
arb (.val v_44 h45) call fun v_46 h47 =>
gd (wantB v_46 true) (fun c => arb (.of (fadR 1 f_32) h47) call c) h47 fun v_48 h49 =>
gd (wantB v_46 true) (fun c => arb (.of (ld1 h49 v_48) h49) call c) h49 fun v_50 h51 =>
gd (wantB v_46 true) (fun c => arb (.val (t 2) h51) call c) h51 fun v_52 h53 =>
gd (wantB v_46 true) (fun c => arb (.of (aBin P .eql 3 (.tmp 25) (.tmp 26) v_50 v_52) h53) call c) h53 fun v_54 h55 =>
arb (pkR v_46 v_54 (.bool false) h55) call fun v_56 h57 =>
cb v_56 (
arb (.val i_34 h57) call fun v_58 h59 =>
arb (.val v_58 h59) call fun v_60 h61 =>
k25 .ret (upd (upd (upd (upd (upd (upd (upd (upd (upd (upd (upd (upd (upd (upd (upd (upd (upd t 16 v_26) 17 v_28) 18 v_30) 8 f_32) 7 i_34) 19 v_38) 20 v_40) 21 v_42) 22 v_44) 23 v_46) 24 v_48) 25 v_50) 26 v_52) 27 v_54) 28 v_56) 29 v_58) 6 v_60) h61) (
k25 .normal (upd (upd (upd (upd (upd (upd (upd (upd (upd (upd (upd (upd (upd (upd (upd t 16 v_26) 17 v_28) 18 v_30) 8 f_32) 7 i_34) 19 v_38) 20 v_40) 21 v_42) 22 v_44) 23 v_46) 24 v_48) 25 v_50) 26 v_52) 27 v_54) 28 v_56) h57)

def L_door_Door_find_1 (P : Program) (call : FuncId → List AVal → Heap → Res AVal) (fuel : Nat) (t : T) (h : Heap) : Res (Ex × T) :=
lt okK fun k =>
arb (.of (aBin P .lss 3 (.tmp 14) (.tmp 13) (t 14) (t 13)) h) call fun v_18 h19 =>
lt (sqK (J_door_Door_find_2 P call fuel k) k) fun k62 =>
cb v_18 (
k62 .normal (upd t 15 v_18) h19) (
k62 (.exit 0) (upd t 15 v_18) h19)

def S_door_Door_find (P : Program) (call : FuncId → List AVal → Heap → Res AVal) (fuel : Nat) (d_a0 client_a1 seq_a2 : AVal) (h : Heap) : Res AVal :=
lt (retK P [.tmp 6]) fun k =>
arb (.val (.int .i64 0) h) call fun v_0 h1 =>
lt (sqK (J_door_Door_find_0 P call fuel k) k) fun k4 =>
arb (.val d_a0 h1) call fun v_5 h6 =>
arb (nckR v_5 h6) call fun v_7 h8 =>
arb (.of (fadR 15 v_7) h8) call fun v_9 h10 =>
arb (.of (ld1 h10 v_9) h10) call fun v_11 h12 =>
arb (.of (lenL v_11) h12) call fun v_13 h14 =>
arb (.val (.int .i64 0) h14) call fun v_15 h16 =>
lt (blkK 0 k4) fun k17 =>
(loopN (L_door_Door_find_1 P call fuel) fuel (upd (upd (upd (upd (upd (upd (upd (enterT [d_a0, client_a1, seq_a2]) 6 v_0) 9 v_5) 10 v_7) 11 v_9) 12 v_11) 13 v_13) 14 v_15) h16).bind (lpK k17)
theorem E_door_Door_find (call : FuncId → List AVal → Heap → Res AVal) (fuel : Nat) (d_a0 client_a1 seq_a2 : AVal) (h : Heap) : bodyR Try.prog call fuel Try.f24 [d_a0, client_a1, seq_a2] h = S_door_Door_find Try.prog call fuel d_a0 client_a1 seq_a2 h := by kernel_rfl
theorem R_door_Door_find {X : XTab} (d_a0 client_a1 seq_a2 : AVal) {h : Heap} {Q : AVal → Heap → Prop} (hx : X F_door_Door_find [d_a0, client_a1, seq_a2] = none) (q : Tells (fun m => S_door_Door_find Try.prog (acallX Try.prog X m) m d_a0 client_a1 seq_a2 h) Q) :
    Tells (fun m => acallX Try.prog X m F_door_Door_find [d_a0, client_a1, seq_a2] h) Q :=
  Tells.later (q.le fun m => (E_door_Door_find (acallX Try.prog X m) m d_a0 client_a1 seq_a2 h) ▸ acallX_le Try.func24 hx m h)

/-! ### precentor/door.has -/
def J_door_has_0 (P : Program) (call : FuncId → List AVal → Heap → Res AVal) (fuel : Nat) (k : Kn (AVal)) (t : T) (h : Heap) : Res (AVal) :=
arb (.val (.bool false) h) call fun v_2 h3 =>
k .ret (upd t 4 v_2) h3

def J_door_has_3 (P : Program) (call : FuncId → List AVal → Heap → Res AVal) (fuel : Nat) (k : Kn (Ex × T)) (t : T) (h : Heap) : Res (Ex × T) :=
arb (.of (aBin P .add 3 (.tmp 9) (.const (.int .i64 1)) (t 9) (.int .i64 1)) h) call fun v_14 h15 =>
arb (.val v_14 h15) call fun v_16 h17 =>
k .normal (upd (upd t 16 v_14) 9 v_16) h17

def J_door_has_2 (P : Program) (call : FuncId → List AVal → Heap → Res AVal) (fuel : Nat) (k : Kn (Ex × T)) (t : T) (h : Heap) : Res (Ex × T) :=
lt (sqK (J_door_has_3 P call fuel k) k) fun k18 =>
lt (blkK 1 k18) fun k19 =>
arb (.of (ixsR 1 (t 7) (t 9)) h) call fun v_20 h21 =>
arb (.of (ld1 h21 v_20) h21) call fun v_22 h23 =>
arb (.val v_22 h23) call fun x_24 h25 =>
arb (.val x_24 h25) call fun v_26 h27 =>
arb (.val (t 1) h27) call fun v_28 h29 =>
arb (.of (aBin P .eql 3 (.tmp 13) (.tmp 14) v_26 v_28) h29) call fun v_30 h31 =>
cb v_30 (
arb (.val (.bool true) h31) call fun v_32 h33 =>
k19 .ret (upd (upd (upd (upd (upd (upd (upd t 11 v_20) 12 v_22) 6 x_24) 13 v_26) 14 v_28) 15 v_30) 4 v_32) h33) (
k19 .normal (upd (upd (upd (upd (upd (upd t 11 v_20) 12 v_22) 6 x_24) 13 v_26) 14 v_28) 15 v_30) h31)

def L_door_has_1 (P : Program) (call : FuncId → List AVal → Heap → Res AVal) (fuel : Nat) (t : T) (h : Heap) : Res (Ex × T) :=
lt okK fun k =>
arb (.of (aBin P .lss 3 (.tmp 9) (.tmp 8) (t 9) (t 8)) h) call fun v_12 h13 =>
lt (sqK (J_door_has_2 P call fuel k) k) fun k34 =>
cb v_12 (
k34 .normal (upd t 10 v_12) h13) (
k34 (.exit 0) (upd t 10 v_12) h13)

def S_door_has (P : Program) (call : FuncId → List AVal → Heap → Res AVal) (fuel : Nat) (l_a0 n_a1 : AVal) (h : Heap) : Res AVal :=
lt (retK P [.tmp 4]) fun k =>
arb (.val (.bool false) h) call fun v_0 h1 =>
lt (sqK (J_door_has_0 P call fuel k) k) fun k4 =>
arb (.val l_a0 h1) call fun v_5 h6 =>
arb (.of (lenL v_5) h6) call fun v_7 h8 =>
arb (.val (.int .i64 0) h8) call fun v_9 h10 =>
lt (blkK 0 k4) fun k11 =>
(loopN (L_door_has_1 P call fuel) fuel (upd (upd (upd (upd (enterT [l_a0, n_a1]) 4 v_0) 7 v_5) 8 v_7) 9 v_9) h10).bind (lpK k11)
theorem E_door_has (call : FuncId → List AVal → Heap → Res AVal) (fuel : Nat) (l_a0 n_a1 : AVal) (h : Heap) : bodyR Try.prog call fuel Try.f25 [l_a0, n_a1] h = S_door_has Try.prog call fuel l_a0 n_a1 h := by kernel_rfl
theorem R_door_has {X : XTab} (l_a0 n_a1 : AVal) {h : Heap} {Q : AVal → Heap → Prop} (hx : X F_door_has [l_a0, n_a1] = none) (q : Tells (fun m => S_door_has Try.prog (acallX Try.prog X m) m l_a0 n_a1 h) Q) :
    Tells (fun m => acallX Try.prog X m F_door_has [l_a0, n_a1] h) Q :=
  Tells.later (q.le fun m => (E_door_has (acallX Try.prog X m) m l_a0 n_a1 h) ▸ acallX_le Try.func25 hx m h)

/-! ### (*precentor/door.Door).over -/

def S_door_Door_over (P : Program) (call : FuncId → List AVal → Heap → Res AVal) (fuel : Nat) (d_a0 i_a1 now_a2 : AVal) (h : Heap) : Res AVal :=
lt (retK P []) fun k =>
arb (.val d_a0 h) call fun v_0 h1 =>
arb (nckR v_0 h1) call fun v_2 h3 =>
arb (.of (fadR 15 v_2) h3) call fun v_4 h5 =>
arb (.of (ld1 h5 v_4) h5) call fun v_6 h7 =>
arb (.val i_a1 h7) call fun v_8 h9 =>
arb (.of (ixsR 5 v_6 v_8) h9) call fun v_10 h11 =>
arb (.of (ldn 5 h11 v_10) h11) call fun v_12 h13 =>
arb (newR [(.int .i64 0), (.int .i64 0), (.bool false), (.bool false), .nils] h13) call fun f_14 h15 =>
arb (stR 5 h15 f_14 v_12) call fun v_16 h17 =>
arb (.val now_a2 h17) call fun v_18 h19 =>
arb (.val v_18 h19) call fun v_20 h21 =>
gd (wantB v_20 false) (fun c => arb (.of (fadR 2 f_14) h21) call c) h21 fun v_22 h23 =>
gd (wantB v_20 false) (fun c => arb (.of (ld1 h23 v_22) h23) call c) h23 fun v_24 h25 =>
gd (wantB v_20 false) (fun c => arb (.val v_24 h25) call c) h25 fun v_26 h27 =>
gd (wantB v_26 true) (fun c => arb (.of (fadR 3 f_14) h27) call c) h27 fun v_28 h29 =>
gd (wantB v_26 true) (fun c => arb (.of (ld1 h29 v_28) h29) call c) h29 fun v_30 h31 =>
gd (wantB v_20 false) (fun c => arb (pkR v_26 v_30 (.bool false) h31) call c) h31 fun v_32 h33 =>
gd (wantB v_20 false) (fun c => arb (.val v_32 h33) call c) h33 fun v_34 h35 =>
gd (wantB v_34 true) (fun c => arb (.of (fadR 4 f_14) h35) call c) h35 fun v_36 h37 =>
gd (wantB v_34 true) (fun c => arb (.of (ld1 h37 v_36) h37) call c) h37 fun v_38 h39 =>
gd (wantB v_34 true) (fun c => arb (.of (lenL v_38) h39) call c) h39 fun v_40 h41 =>
gd (wantB v_34 true) (fun c => arb (.of (aBin P .eql 3 (.tmp 25) (.const (.int .i64 0)) v_40 (.int .i64 0)) h41) call c) h41 fun v_42 h43 =>
gd (wantB v_20 false) (fun c => arb (pkR v_34 v_42 (.bool false) h43) call c) h43 fun v_44 h45 =>
arb (pkR v_20 (.bool true) v_44 h45) call fun v_46 h47 =>
cb v_46 (
obv (.val d_a0 h47) fun v_48 =>
obv (.val d_a0 h47) fun v_50 =>
obv (nckR v_50 h47) fun v_52 =>
obv (.of (fadR 15 v_52) h47) fun v_54 =>
obv (.of (ld1 h47 v_54) h47) fun v_56 => ifb true <|
obv (.val i_a1 h47) fun v_58 =>
obv (.val i_a1 h47) fun v_60 =>
obv (.of (slcR 5 v_56 none (some v_58) (some v_60)) h47) fun v_62 =>
obv (.val d_a0 h47) fun v_64 =>
obv (nckR v_64 h47) fun v_66 =>
obv (.of (fadR 15 v_66) h47) fun v_68 =>
obv (.of (ld1 h47 v_68) h47) fun v_70 => ifb true <|
obv (.val i_a1 h47) fun v_72 =>
obv (.of (aBin P .add 3 (.tmp 41) (.const (.int .i64 1)) v_72 (.int .i64 1)) h47) fun v_74 =>
obv (.of (slcR 5 v_70 (some v_74) none none) h47) fun v_76 =>
arbE (appR 5 48 h47 v_62 v_76) call fun v_78 h79 => lt h79 fun g79 => ifb (true && true) <|
obv (nckR v_48 g79) fun v_80 =>
obv (.of (fadR 15 v_80) g79) fun v_82 =>
arbE (stR 1 g79 v_82 v_78) call fun v_84 h85 => lt h85 fun g85 => ifb (true && true) <|
k .normal (upd (upd (upd (upd (upd (upd (upd (upd (upd (upd (upd (upd (upd (upd (upd (upd (upd (upd (upd (upd (upd (upd (upd (upd (upd (upd (upd (upd (upd (upd (upd (upd (upd (upd (upd (upd (upd (upd (upd (upd (upd (enterT [d_a0, i_a1, now_a2]) 7 v_0) 8 v_2) 9 v_4) 10 v_6) 11 v_8) 12 v_10) 13 v_12) 6 f_14) 14 v_18) 15 v_20) 16 v_22) 17 v_24) 18 v_26) 19 v_28) 20 v_30) 21 v_32) 22 v_34) 23 v_36) 24 v_38) 25 v_40) 26 v_42) 27 v_44) 28 v_46) 29 v_48) 30 v_50) 31 v_52) 32 v_54) 33 v_56) 34 v_58) 35 v_60) 36 v_62) 37 v_64) 38 v_66) 39 v_68) 40 v_70) 41 v_72) 42 v_74) 43 v_76) 44 v_78) 45 v_80) 46 v_82) g85) (
k .normal (upd (upd (upd (upd (upd (upd (upd (upd (upd (upd (upd (upd (upd (upd (upd (upd (upd (upd (upd (upd (upd (upd (upd (enterT [d_a0, i_a1, now_a2]) 7 v_0) 8 v_2) 9 v_4) 10 v_6) 11 v_8) 12 v_10) 13 v_12) 6 f_14) 14 v_18) 15 v_20) 16 v_22) 17 v_24) 18 v_26) 19 v_28) 20 v_30) 21 v_32) 22 v_34) 23 v_36) 24 v_38) 25 v_40) 26 v_42) 27 v_44) 28 v_46) h47)
theorem E_door_Door_over (call : FuncId → List AVal → Heap → Res AVal) (fuel : Nat) (d_a0 i_a1 now_a2 : AVal) (h : Heap) : bodyR Try.prog call fuel Try.f26 [d_a0, i_a1, now_a2] h = S_door_Door_over Try.prog call fuel d_a0 i_a1 now_a2 h := by kernel_rfl
theorem R_door_Door_over {X : XTab} (d_a0 i_a1 now_a2 : AVal) {h : Heap} {Q : AVal → Heap → Prop} (hx : X F_door_Door_over [d_a0, i_a1, now_a2] = none) (q : Tells (fun m => S_door_Door_over Try.prog (acallX Try.prog X m) m d_a0 i_a1 now_a2 h) Q) :
    Tells (fun m => acallX Try.prog X m F_door_Door_over [d_a0, i_a1, now_a2] h) Q :=
  Tells.later (q.le fun m => (E_door_Door_over (acallX Try.prog X m) m d_a0 i_a1 now_a2 h) ▸ acallX_le Try.func26 hx m h)


end Go.Proofs.Ytagfibiakjiooaa
