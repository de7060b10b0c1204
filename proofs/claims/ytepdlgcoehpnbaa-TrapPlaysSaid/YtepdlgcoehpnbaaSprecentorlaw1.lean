/-
  Functions of precentorlaw1 in the form of YtepdlgcoehpnbaaABS (printed by a program of ours, gen.lean).
-/
import Derived.Test.YtepdlgcoehpnbaaSIds
set_option linter.unusedVariables false
namespace Go.Proofs.Ytepdlgcoehpnbaa
open Go.Ab
/-! ### precentor/precentorlaw1.TrapPlays -/
def J_precentorlaw1_TrapPlays_1 (P : Program) (call : FuncId → List AVal → Heap → Res AVal) (fuel : Nat) (k : Kn (AVal)) (t : T) (h : Heap) : Res (AVal) :=
arb (.val (.bool true) h) call fun v_32 h33 =>
k .ret (upd t 2 v_32) h33

def J_precentorlaw1_TrapPlays_4 (P : Program) (call : FuncId → List AVal → Heap → Res AVal) (fuel : Nat) (k : Kn (Ex × T)) (t : T) (h : Heap) : Res (Ex × T) :=
arb (.val (t 7) h) call fun v_38 h39 =>
arb (.of (aBin P .add 3 (.tmp 45) (.const (.int .i64 1)) v_38 (.int .i64 1)) h39) call fun v_40 h41 =>
arb (.val v_40 h41) call fun i_42 h43 =>
k .normal (upd (upd (upd t 45 v_38) 46 v_40) 7 i_42) h43

def J_precentorlaw1_TrapPlays_3 (P : Program) (call : FuncId → List AVal → Heap → Res AVal) (fuel : Nat) (k : Kn (Ex × T)) (t : T) (h : Heap) : Res (Ex × T) :=
lt (sqK (J_precentorlaw1_TrapPlays_4 P call fuel k) k) fun k44 =>
lt (blkK 1 k44) fun k45 =>
obv (.of (ld1 h (t 3)) h) fun v_46 =>
obv (nckR v_46 h) fun v_47 =>
obv (.of (fadR 2 v_47) h) fun v_48 =>
obv (.of (ld1 h v_48) h) fun v_49 =>
obv (.val (t 7) h) fun v_50 =>
obv (.of (ixsR 1 v_49 v_50) h) fun v_51 =>
obv (.of (ld1 h v_51) h) fun v_52 =>
obv (.val (t 4) h) fun v_53 =>
obv (nckR v_53 h) fun v_54 =>
obv (.of (fadR 2 v_54) h) fun v_55 =>
obv (.of (ld1 h v_55) h) fun v_56 =>
obv (.val (t 7) h) fun v_57 =>
obv (.of (ixsR 1 v_56 v_57) h) fun v_58 =>
obv (.of (ld1 h v_58) h) fun v_59 =>
obv (.of (aBin P .neq 3 (.tmp 53) (.tmp 60) v_52 v_59) h) fun v_60 =>
cb v_60 (
arb (.val (.bool false) h) call fun v_61 h62 =>
k45 .ret (upd (upd (upd (upd (upd (upd (upd (upd (upd (upd (upd (upd (upd (upd (upd (upd t 47 v_46) 48 v_47) 49 v_48) 50 v_49) 51 v_50) 52 v_51) 53 v_52) 54 v_53) 55 v_54) 56 v_55) 57 v_56) 58 v_57) 59 v_58) 60 v_59) 61 v_60) 2 v_61) h62) (
k45 .normal (upd (upd (upd (upd (upd (upd (upd (upd (upd (upd (upd (upd (upd (upd (upd t 47 v_46) 48 v_47) 49 v_48) 50 v_49) 51 v_50) 52 v_51) 53 v_52) 54 v_53) 55 v_54) 56 v_55) 57 v_56) 58 v_57) 59 v_58) 60 v_59) 61 v_60) h)

def L_precentorlaw1_TrapPlays_2 (P : Program) (call : FuncId → List AVal → Heap → Res AVal) (fuel : Nat) (t : T) (h : Heap) : Res (Ex × T) :=
lt okK fun k =>
lt (sqK (J_precentorlaw1_TrapPlays_3 P call fuel k) k) fun k63 =>
arb (.val (t 7) h) call fun v_64 h65 =>
arb (.of (ld1 h65 (t 3)) h65) call fun v_66 h67 =>
arb (nckR v_66 h67) call fun v_68 h69 =>
arb (.of (fadR 2 v_68) h69) call fun v_70 h71 =>
arb (.of (ld1 h71 v_70) h71) call fun v_72 h73 =>
arb (.of (lenL v_72) h73) call fun v_74 h75 =>
arb (.of (aBin P .lss 3 (.tmp 38) (.tmp 43) v_64 v_74) h75) call fun v_76 h77 =>
cb v_76 (
k63 .normal (upd (upd (upd (upd (upd (upd (upd t 38 v_64) 39 v_66) 40 v_68) 41 v_70) 42 v_72) 43 v_74) 44 v_76) h77) (
k63 (.exit 0) (upd (upd (upd (upd (upd (upd (upd t 38 v_64) 39 v_66) 40 v_68) 41 v_70) 42 v_72) 43 v_74) 44 v_76) h77)

def J_precentorlaw1_TrapPlays_0 (P : Program) (call : FuncId → List AVal → Heap → Res AVal) (fuel : Nat) (k : Kn (AVal)) (t : T) (h : Heap) : Res (AVal) :=
lt (sqK (J_precentorlaw1_TrapPlays_1 P call fuel k) k) fun k34 =>
arb (.val (.int .i64 0) h) call fun i_35 h36 =>
lt (blkK 0 k34) fun k37 =>
(loopN (L_precentorlaw1_TrapPlays_2 P call fuel) fuel (upd t 7 i_35) h36).bind (lpK k37)

def S_precentorlaw1_TrapPlays (P : Program) (call : FuncId → List AVal → Heap → Res AVal) (fuel : Nat) (l_a0 : AVal) (h : Heap) : Res AVal :=
lt (retK P [.tmp 2]) fun k =>
arb (.val (.bool false) h) call fun v_0 h1 =>
arb (.val l_a0 h1) call fun v_2 h3 =>
arb (.of (bldR [.nils, (.int .i64 0), .nils] [(0, 1, v_2)]) h3) call fun v_4 h5 =>
arb (boxR v_4 h5) call fun v_6 h7 =>
arb (newR [.nilp] h7) call fun a_8 h9 =>
arb (stR 1 h9 a_8 v_6) call fun v_10 h11 =>
arb (.val l_a0 h11) call fun v_12 h13 =>
arb (.of (bldR [.nils, (.int .i64 0), .nils] [(0, 1, v_12)]) h13) call fun v_14 h15 =>
arb (boxR v_14 h15) call fun v_16 h17 =>
arb (.val v_16 h17) call fun b_18 h19 =>
arb (.val (.fn F_precentorlaw1_TrapPlays_1 [] [a_8]) h19) call fun v_20 h21 =>
arb (.call F_precentorlaw1_thrown [v_20] h21) call fun v_22 h23 =>
arb (.val v_22 h23) call fun x_24 h25 =>
arb (.val b_18 h25) call fun v_26 h27 =>
arb (.call F_precentorlaw1_player_want [v_26, (.int .i64 0)] h27) call fun v_28 h29 =>
arb (.val v_28 h29) call fun y_30 h31 =>
lt (sqK (J_precentorlaw1_TrapPlays_0 P call fuel k) k) fun k78 =>
arbE (.call F_precentorlaw1_known [] h31) call fun v_79 h80 => lt h80 fun g80 => ifb (true && true) <|
obv (.of (aUn P .not v_79) g80) fun v_81 =>
obv (.val v_81 g80) fun v_83 =>
gdr (wantB v_83 false) (fun c => obv (.val x_24 g80) fun v_85 =>
c true v_85 g80) g80 fun w87 v_85 h87 =>
gdr (wantB v_83 false) (fun c => obv (.val y_30 h87) fun v_88 =>
c true v_88 h87) h87 fun w90 v_88 h90 =>
gdr (wantB v_83 false) (fun c => obv (.of (aBin P .neq 3 (.tmp 21) (.tmp 22) v_85 v_88) h90) fun v_91 =>
c true v_91 h90) h90 fun w93 v_91 h93 =>
obv (pkR v_83 (.bool true) v_91 h93) fun v_94 =>
obv (.val v_94 h93) fun v_96 =>
gdr (wantB v_96 false) (fun c => obv (.of (ld1 h93 a_8) h93) fun v_98 => ifb true <|
c true v_98 h93) h93 fun w100 v_98 h100 =>
gdr (wantB v_96 false) (fun c => obv (nckR v_98 h100) fun v_101 =>
c true v_101 h100) h100 fun w103 v_101 h103 =>
gdr (wantB v_96 false) (fun c => obv (.of (fadR 2 v_101) h103) fun v_104 =>
c true v_104 h103) h103 fun w106 v_104 h106 =>
gdr (wantB v_96 false) (fun c => obv (.of (ld1 h106 v_104) h106) fun v_107 => ifb true <|
c true v_107 h106) h106 fun w109 v_107 h109 =>
gdr (wantB v_96 false) (fun c => obv (.of (lenL v_107) h109) fun v_110 =>
c true v_110 h109) h109 fun w112 v_110 h112 =>
gdr (wantB v_96 false) (fun c => obv (.val b_18 h112) fun v_113 =>
c true v_113 h112) h112 fun w115 v_113 h115 =>
gdr (wantB v_96 false) (fun c => obv (nckR v_113 h115) fun v_116 =>
c true v_116 h115) h115 fun w118 v_116 h118 =>
gdr (wantB v_96 false) (fun c => obv (.of (fadR 2 v_116) h118) fun v_119 =>
c true v_119 h118) h118 fun w121 v_119 h121 =>
gdr (wantB v_96 false) (fun c => obv (.of (ld1 h121 v_119) h121) fun v_122 => ifb true <|
c true v_122 h121) h121 fun w124 v_122 h124 =>
gdr (wantB v_96 false) (fun c => obv (.of (lenL v_122) h124) fun v_125 =>
c true v_125 h124) h124 fun w127 v_125 h127 =>
gdr (wantB v_96 false) (fun c => obv (.of (aBin P .neq 3 (.tmp 30) (.tmp 35) v_110 v_125) h127) fun v_128 =>
c true v_128 h127) h127 fun w130 v_128 h130 =>
obv (pkR v_96 (.bool true) v_128 h130) fun v_131 =>
cb v_131 (
arb (.val (.bool false) h130) call fun v_133 h134 =>
k78 .ret (upd (upd (upd (upd (upd (upd (upd (upd (upd (upd (upd (upd (upd (upd (upd (upd (upd (upd (upd (upd (upd (upd (upd (upd (upd (upd (upd (upd (upd (upd (upd (upd (upd (upd (upd (upd (enterT [l_a0]) 2 v_0) 8 v_2) 9 v_4) 10 v_6) 3 a_8) 11 v_12) 12 v_14) 13 v_16) 4 b_18) 14 v_20) 15 v_22) 5 x_24) 16 v_26) 17 v_28) 6 y_30) 18 v_79) 19 v_81) 20 v_83) 21 v_85) 22 v_88) 23 v_91) 24 v_94) 25 v_96) 26 v_98) 27 v_101) 28 v_104) 29 v_107) 30 v_110) 31 v_113) 32 v_116) 33 v_119) 34 v_122) 35 v_125) 36 v_128) 37 v_131) 2 v_133) h134) (
k78 .normal (upd (upd (upd (upd (upd (upd (upd (upd (upd (upd (upd (upd (upd (upd (upd (upd (upd (upd (upd (upd (upd (upd (upd (upd (upd (upd (upd (upd (upd (upd (upd (upd (upd (upd (upd (enterT [l_a0]) 2 v_0) 8 v_2) 9 v_4) 10 v_6) 3 a_8) 11 v_12) 12 v_14) 13 v_16) 4 b_18) 14 v_20) 15 v_22) 5 x_24) 16 v_26) 17 v_28) 6 y_30) 18 v_79) 19 v_81) 20 v_83) 21 v_85) 22 v_88) 23 v_91) 24 v_94) 25 v_96) 26 v_98) 27 v_101) 28 v_104) 29 v_107) 30 v_110) 31 v_113) 32 v_116) 33 v_119) 34 v_122) 35 v_125) 36 v_128) 37 v_131) h130)
theorem E_precentorlaw1_TrapPlays (call : FuncId → List AVal → Heap → Res AVal) (fuel : Nat) (l_a0 : AVal) (h : Heap) : bodyR Try.prog call fuel Try.f4 [l_a0] h = S_precentorlaw1_TrapPlays Try.prog call fuel l_a0 h := by kernel_rfl
theorem R_precentorlaw1_TrapPlays {X : XTab} (l_a0 : AVal) {h : Heap} {Q : AVal → Heap → Prop} (hx : X F_precentorlaw1_TrapPlays [l_a0] = none) (q : Tells (fun m => S_precentorlaw1_TrapPlays Try.prog (acallX Try.prog X m) m l_a0 h) Q) :
    Tells (fun m => acallX Try.prog X m F_precentorlaw1_TrapPlays [l_a0] h) Q :=
  Tells.later (q.le fun m => (E_precentorlaw1_TrapPlays (acallX Try.prog X m) m l_a0 h) ▸ acallX_le Try.func4 hx m h)
theorem RV_precentorlaw1_TrapPlays {X : XTab} {V : AVal → Heap → Prop} (l_a0 : AVal) {h : Heap} {Q : AVal → Heap → Prop} (hx : X F_precentorlaw1_TrapPlays [l_a0] = none) (q : TellsV V (fun m => S_precentorlaw1_TrapPlays Try.prog (acallX Try.prog X m) m l_a0 h) Q) :
    TellsV V (fun m => acallX Try.prog X m F_precentorlaw1_TrapPlays [l_a0] h) Q :=
  TV.later (TV.le q fun m => (E_precentorlaw1_TrapPlays (acallX Try.prog X m) m l_a0 h) ▸ acallX_le Try.func4 hx m h)

/-! ### precentor/precentorlaw1.TrapPasses -/
def J_precentorlaw1_TrapPasses_1 (P : Program) (call : FuncId → List AVal → Heap → Res AVal) (fuel : Nat) (k : Kn (AVal)) (t : T) (h : Heap) : Res (AVal) :=
arb (.val (.bool true) h) call fun v_30 h31 =>
k .ret (upd t 4 v_30) h31

def J_precentorlaw1_TrapPasses_4 (P : Program) (call : FuncId → List AVal → Heap → Res AVal) (fuel : Nat) (k : Kn (Ex × T)) (t : T) (h : Heap) : Res (Ex × T) :=
arb (.val (t 8) h) call fun v_36 h37 =>
arb (.of (aBin P .add 3 (.tmp 33) (.const (.int .i64 1)) v_36 (.int .i64 1)) h37) call fun v_38 h39 =>
arb (.val v_38 h39) call fun i_40 h41 =>
k .normal (upd (upd (upd t 33 v_36) 34 v_38) 8 i_40) h41

def J_precentorlaw1_TrapPasses_3 (P : Program) (call : FuncId → List AVal → Heap → Res AVal) (fuel : Nat) (k : Kn (Ex × T)) (t : T) (h : Heap) : Res (Ex × T) :=
lt (sqK (J_precentorlaw1_TrapPasses_4 P call fuel k) k) fun k42 =>
lt (blkK 1 k42) fun k43 =>
obv (.of (ld1 h (t 5)) h) fun v_44 =>
obv (.val (t 8) h) fun v_45 =>
obv (.of (ixsR 1 v_44 v_45) h) fun v_46 =>
obv (.of (ld1 h v_46) h) fun v_47 =>
obv (.of (ld1 h (t 3)) h) fun v_48 =>
obv (.val (t 8) h) fun v_49 =>
obv (.of (aBin P .sub 3 (.tmp 39) (.tmp 40) v_48 v_49) h) fun v_50 =>
obv (.of (aBin P .neq 3 (.tmp 38) (.tmp 41) v_47 v_50) h) fun v_51 =>
cb v_51 (
arb (.val (.bool false) h) call fun v_52 h53 =>
k43 .ret (upd (upd (upd (upd (upd (upd (upd (upd (upd t 35 v_44) 36 v_45) 37 v_46) 38 v_47) 39 v_48) 40 v_49) 41 v_50) 42 v_51) 4 v_52) h53) (
k43 .normal (upd (upd (upd (upd (upd (upd (upd (upd t 35 v_44) 36 v_45) 37 v_46) 38 v_47) 39 v_48) 40 v_49) 41 v_50) 42 v_51) h)

def L_precentorlaw1_TrapPasses_2 (P : Program) (call : FuncId → List AVal → Heap → Res AVal) (fuel : Nat) (t : T) (h : Heap) : Res (Ex × T) :=
lt okK fun k =>
lt (sqK (J_precentorlaw1_TrapPasses_3 P call fuel k) k) fun k54 =>
arb (.val (t 8) h) call fun v_55 h56 =>
arb (.of (ld1 h56 (t 3)) h56) call fun v_57 h58 =>
arb (.of (aBin P .leq 3 (.tmp 30) (.tmp 31) v_55 v_57) h58) call fun v_59 h60 =>
cb v_59 (
k54 .normal (upd (upd (upd t 30 v_55) 31 v_57) 32 v_59) h60) (
k54 (.exit 0) (upd (upd (upd t 30 v_55) 31 v_57) 32 v_59) h60)

def J_precentorlaw1_TrapPasses_0 (P : Program) (call : FuncId → List AVal → Heap → Res AVal) (fuel : Nat) (k : Kn (AVal)) (t : T) (h : Heap) : Res (AVal) :=
lt (sqK (J_precentorlaw1_TrapPasses_1 P call fuel k) k) fun k32 =>
arb (.val (.int .i64 0) h) call fun i_33 h34 =>
lt (blkK 0 k32) fun k35 =>
(loopN (L_precentorlaw1_TrapPasses_2 P call fuel) fuel (upd t 8 i_33) h34).bind (lpK k35)

def S_precentorlaw1_TrapPasses (P : Program) (call : FuncId → List AVal → Heap → Res AVal) (fuel : Nat) (s_a0 deep_a1 : AVal) (h : Heap) : Res AVal :=
lt (retK P [.tmp 4]) fun k =>
arb (boxR s_a0 h) call fun s_0 h1 =>
arb (boxR deep_a1 h1) call fun deep_2 h3 =>
arb (.val (.bool false) h3) call fun v_4 h5 =>
arb (.of (ld1 h5 deep_2) h5) call fun v_6 h7 =>
arb (.call F_precentorhand_Pick [v_6, (.int .i64 12)] h7) call fun v_8 h9 =>
arb (.of (aBin P .add 3 (.const (.int .i64 1)) (.tmp 10) (.int .i64 1) v_8) h9) call fun v_10 h11 =>
arb (stR 1 h11 deep_2 v_10) call fun v_12 h13 =>
arb (newR [.nils] h13) call fun order_14 h15 =>
arb (newR [.nilf] h15) call fun nest_16 h17 =>
arb (.val (.fn F_precentorlaw1_TrapPasses_1 [] [order_14, deep_2, s_0, nest_16]) h17) call fun v_18 h19 =>
arb (stR 1 h19 nest_16 v_18) call fun v_20 h21 =>
arb (newR [(.str (bs []))] h21) call fun got_22 h23 =>
arb (stR 1 h23 got_22 (.str (bs []))) call fun v_24 h25 =>
arb (.val (.fn F_precentorlaw1_TrapPasses_2 [] [got_22, nest_16]) h25) call fun v_26 h27 =>
arb (clvR P v_26 [] h27) call fun v_28 h29 =>
lt (sqK (J_precentorlaw1_TrapPasses_0 P call fuel k) k) fun k61 =>
arb (.call F_precentorlaw1_known [] h29) call fun v_62 h63 =>
arb (.of (aUn P .not v_62) h63) call fun v_64 h65 =>
arb (.val v_64 h65) call fun v_66 h67 =>
gd (wantB v_66 false) (fun c => arb (.of (ld1 h67 got_22) h67) call c) h67 fun v_68 h69 =>
gd (wantB v_66 false) (fun c => arb (.of (ld1 h69 s_0) h69) call c) h69 fun v_70 h71 =>
gd (wantB v_66 false) (fun c => arb (.of (aBin P .add 9 (.const (.string (bs [116, 101, 120, 116, 32]))) (.tmp 19) (.str (bs [116, 101, 120, 116, 32])) v_70) h71) call c) h71 fun v_72 h73 =>
gd (wantB v_66 false) (fun c => arb (.of (aBin P .neq 9 (.tmp 18) (.tmp 20) v_68 v_72) h73) call c) h73 fun v_74 h75 =>
arb (pkR v_66 (.bool true) v_74 h75) call fun v_76 h77 =>
arb (.val v_76 h77) call fun v_78 h79 =>
gd (wantB v_78 false) (fun c => arb (.of (ld1 h79 order_14) h79) call c) h79 fun v_80 h81 =>
gd (wantB v_78 false) (fun c => arb (.of (lenL v_80) h81) call c) h81 fun v_82 h83 =>
gd (wantB v_78 false) (fun c => arb (.of (ld1 h83 deep_2) h83) call c) h83 fun v_84 h85 =>
gd (wantB v_78 false) (fun c => arb (.of (aBin P .add 3 (.tmp 26) (.const (.int .i64 1)) v_84 (.int .i64 1)) h85) call c) h85 fun v_86 h87 =>
gd (wantB v_78 false) (fun c => arb (.of (aBin P .neq 3 (.tmp 25) (.tmp 27) v_82 v_86) h87) call c) h87 fun v_88 h89 =>
arb (pkR v_78 (.bool true) v_88 h89) call fun v_90 h91 =>
cb v_90 (
arb (.val (.bool false) h91) call fun v_92 h93 =>
k61 .ret (upd (upd (upd (upd (upd (upd (upd (upd (upd (upd (upd (upd (upd (upd (upd (upd (upd (upd (upd (upd (upd (upd (upd (upd (upd (upd (upd (upd (enterT [s_a0, deep_a1]) 2 s_0) 3 deep_2) 4 v_4) 9 v_6) 10 v_8) 11 v_10) 5 order_14) 6 nest_16) 12 v_18) 7 got_22) 13 v_26) 14 v_28) 15 v_62) 16 v_64) 17 v_66) 18 v_68) 19 v_70) 20 v_72) 21 v_74) 22 v_76) 23 v_78) 24 v_80) 25 v_82) 26 v_84) 27 v_86) 28 v_88) 29 v_90) 4 v_92) h93) (
k61 .normal (upd (upd (upd (upd (upd (upd (upd (upd (upd (upd (upd (upd (upd (upd (upd (upd (upd (upd (upd (upd (upd (upd (upd (upd (upd (upd (upd (enterT [s_a0, deep_a1]) 2 s_0) 3 deep_2) 4 v_4) 9 v_6) 10 v_8) 11 v_10) 5 order_14) 6 nest_16) 12 v_18) 7 got_22) 13 v_26) 14 v_28) 15 v_62) 16 v_64) 17 v_66) 18 v_68) 19 v_70) 20 v_72) 21 v_74) 22 v_76) 23 v_78) 24 v_80) 25 v_82) 26 v_84) 27 v_86) 28 v_88) 29 v_90) h91)
theorem E_precentorlaw1_TrapPasses (call : FuncId → List AVal → Heap → Res AVal) (fuel : Nat) (s_a0 deep_a1 : AVal) (h : Heap) : bodyR Try.prog call fuel Try.f5 [s_a0, deep_a1] h = S_precentorlaw1_TrapPasses Try.prog call fuel s_a0 deep_a1 h := by kernel_rfl
theorem R_precentorlaw1_TrapPasses {X : XTab} (s_a0 deep_a1 : AVal) {h : Heap} {Q : AVal → Heap → Prop} (hx : X F_precentorlaw1_TrapPasses [s_a0, deep_a1] = none) (q : Tells (fun m => S_precentorlaw1_TrapPasses Try.prog (acallX Try.prog X m) m s_a0 deep_a1 h) Q) :
    Tells (fun m => acallX Try.prog X m F_precentorlaw1_TrapPasses [s_a0, deep_a1] h) Q :=
  Tells.later (q.le fun m => (E_precentorlaw1_TrapPasses (acallX Try.prog X m) m s_a0 deep_a1 h) ▸ acallX_le Try.func5 hx m h)
theorem RV_precentorlaw1_TrapPasses {X : XTab} {V : AVal → Heap → Prop} (s_a0 deep_a1 : AVal) {h : Heap} {Q : AVal → Heap → Prop} (hx : X F_precentorlaw1_TrapPasses [s_a0, deep_a1] = none) (q : TellsV V (fun m => S_precentorlaw1_TrapPasses Try.prog (acallX Try.prog X m) m s_a0 deep_a1 h) Q) :
    TellsV V (fun m => acallX Try.prog X m F_precentorlaw1_TrapPasses [s_a0, deep_a1] h) Q :=
  TV.later (TV.le q fun m => (E_precentorlaw1_TrapPasses (acallX Try.prog X m) m s_a0 deep_a1 h) ▸ acallX_le Try.func5 hx m h)

/-! ### precentor/precentorlaw1.TrapCounts -/
def J_precentorlaw1_TrapCounts_1 (P : Program) (call : FuncId → List AVal → Heap → Res AVal) (fuel : Nat) (k : Kn (AVal)) (t : T) (h : Heap) : Res (AVal) :=
arb (.val (t 3) h) call fun v_12 h13 =>
arb (.call F_trap_Each [v_12] h13) call fun v_14 h15 =>
arb (.val v_14 h15) call fun v_16 h17 =>
arb (extR v_16 0 h17) call fun v_18 h19 =>
arb (extR v_16 1 h19) call fun v_20 h21 =>
arb (.val v_18 h21) call fun n_22 h23 =>
arb (.val v_20 h23) call fun got_24 h25 =>
arb (.call F_precentorlaw1_known [] h25) call fun v_26 h27 =>
arb (.val v_26 h27) call fun v_28 h29 =>
gd (wantB v_28 true) (fun c => arb (.val n_22 h29) call c) h29 fun v_30 h31 =>
gd (wantB v_28 true) (fun c => arb (.val (t 5) h31) call c) h31 fun v_32 h33 =>
gd (wantB v_28 true) (fun c => arb (.of (aBin P .eql 3 (.tmp 50) (.tmp 51) v_30 v_32) h33) call c) h33 fun v_34 h35 =>
arb (pkR v_28 v_34 (.bool false) h35) call fun v_36 h37 =>
arb (.val v_36 h37) call fun v_38 h39 =>
gd (wantB v_38 true) (fun c => arb (.val got_24 h39) call c) h39 fun v_40 h41 =>
gd (wantB v_38 true) (fun c => arb (.val (t 6) h41) call c) h41 fun v_42 h43 =>
gd (wantB v_38 true) (fun c => arb (.of (aBin P .eql 22 (.tmp 55) (.tmp 56) v_40 v_42) h43) call c) h43 fun v_44 h45 =>
arb (pkR v_38 v_44 (.bool false) h45) call fun v_46 h47 =>
arb (.val v_46 h47) call fun v_48 h49 =>
gd (wantB v_48 true) (fun c => arb (.of (ld1 h49 (t 4)) h49) call c) h49 fun v_50 h51 =>
gd (wantB v_48 true) (fun c => arb (.val (t 3) h51) call c) h51 fun v_52 h53 =>
gd (wantB v_48 true) (fun c => arb (.of (lenL v_52) h53) call c) h53 fun v_54 h55 =>
gd (wantB v_48 true) (fun c => arb (.val (t 5) h55) call c) h55 fun v_56 h57 =>
gd (wantB v_48 true) (fun c => arb (.of (aBin P .add 3 (.tmp 63) (.const (.int .i64 1)) v_56 (.int .i64 1)) h57) call c) h57 fun v_58 h59 =>
gd (wantB v_48 true) (fun c => arb (.of (aPureB P (Builtin.min_ #[3, 3] 3) [v_54, v_58]) h59) call c) h59 fun v_60 h61 =>
gd (wantB v_48 true) (fun c => arb (.of (aBin P .eql 3 (.tmp 60) (.tmp 65) v_50 v_60) h61) call c) h61 fun v_62 h63 =>
arb (pkR v_48 v_62 (.bool false) h63) call fun v_64 h65 =>
arb (.val v_64 h65) call fun v_66 h67 =>
k .ret (upd (upd (upd (upd (upd (upd (upd (upd (upd (upd (upd (upd (upd (upd (upd (upd (upd (upd (upd (upd (upd (upd (upd (upd (upd (upd (upd (upd t 44 v_12) 45 v_14) 43 v_16) 46 v_18) 47 v_20) 9 n_22) 10 got_24) 48 v_26) 49 v_28) 50 v_30) 51 v_32) 52 v_34) 53 v_36) 54 v_38) 55 v_40) 56 v_42) 57 v_44) 58 v_46) 59 v_48) 60 v_50) 61 v_52) 62 v_54) 63 v_56) 64 v_58) 65 v_60) 66 v_62) 67 v_64) 2 v_66) h67

def J_precentorlaw1_TrapCounts_0 (P : Program) (call : FuncId → List AVal → Heap → Res AVal) (fuel : Nat) (k : Kn (AVal)) (t : T) (h : Heap) : Res (AVal) :=
lt (sqK (J_precentorlaw1_TrapCounts_1 P call fuel k) k) fun k68 =>
arb (.val (t 5) h) call fun v_69 h70 =>
arb (.of (aBin P .lss 3 (.tmp 39) (.const (.int .i64 0)) v_69 (.int .i64 0)) h70) call fun v_71 h72 =>
cb v_71 (
arb (.val (t 3) h72) call fun v_73 h74 =>
arb (.of (lenL v_73) h74) call fun v_75 h76 =>
arb (.val v_75 h76) call fun first_77 h78 =>
k68 .normal (upd (upd (upd (upd (upd t 39 v_69) 40 v_71) 41 v_73) 42 v_75) 5 first_77) h78) (
k68 .normal (upd (upd t 39 v_69) 40 v_71) h72)

def J_precentorlaw1_TrapCounts_4 (P : Program) (call : FuncId → List AVal → Heap → Res AVal) (fuel : Nat) (k : Kn (Ex × T)) (t : T) (h : Heap) : Res (Ex × T) :=
arb (.val (t 7) h) call fun v_83 h84 =>
arb (.of (aBin P .add 3 (.tmp 19) (.const (.int .i64 1)) v_83 (.int .i64 1)) h84) call fun v_85 h86 =>
arb (.val v_85 h86) call fun i_87 h88 =>
k .normal (upd (upd (upd t 19 v_83) 20 v_85) 7 i_87) h88

def J_precentorlaw1_TrapCounts_5 (P : Program) (call : FuncId → List AVal → Heap → Res AVal) (fuel : Nat) (k : Kn (Ex × T)) (t : T) (h : Heap) : Res (Ex × T) :=
arb (.val (t 3) h) call fun v_107 h108 =>
arb (.val (.fn F_precentorlaw1_TrapCounts_1 [] [(t 4), (t 8)]) h108) call fun v_109 h110 =>
arb (bslR 1 [.nilf] 1 h110 [(0, 1, v_109)]) call fun v_111 h112 =>
arb (appR 1 8 h112 v_107 v_111) call fun v_113 h114 =>
arb (.val v_113 h114) call fun fs_115 h116 =>
k .normal (upd (upd (upd (upd (upd t 35 v_107) 36 v_109) 37 v_111) 38 v_113) 3 fs_115) h116

def J_precentorlaw1_TrapCounts_3 (P : Program) (call : FuncId → List AVal → Heap → Res AVal) (fuel : Nat) (k : Kn (Ex × T)) (t : T) (h : Heap) : Res (Ex × T) :=
lt (sqK (J_precentorlaw1_TrapCounts_4 P call fuel k) k) fun k89 =>
lt (blkK 1 k89) fun k90 =>
arb (.val (t 0) h) call fun v_91 h92 =>
arb (.val (t 7) h92) call fun v_93 h94 =>
arb (.of (ixsR 1 v_91 v_93) h94) call fun v_95 h96 =>
arb (.of (ld1 h96 v_95) h96) call fun v_97 h98 =>
arb (.call F_precentorhand_Pick [v_97, (.int .i64 12)] h98) call fun v_99 h100 =>
arb (.of (aBin P .sub 3 (.tmp 25) (.const (.int .i64 6)) v_99 (.int .i64 6)) h100) call fun v_101 h102 =>
arb (newR [(.int .i64 0)] h102) call fun k_103 h104 =>
arb (stR 1 h104 k_103 v_101) call fun v_105 h106 =>
lt (sqK (J_precentorlaw1_TrapCounts_5 P call fuel k90) k90) fun k117 =>
arb (.of (ld1 h106 k_103) h106) call fun v_118 h119 =>
arb (.of (aBin P .gtr 3 (.tmp 27) (.const (.int .i64 0)) v_118 (.int .i64 0)) h119) call fun v_120 h121 =>
arb (.val v_120 h121) call fun v_122 h123 =>
gd (wantB v_122 true) (fun c => arb (.val (t 5) h123) call c) h123 fun v_124 h125 =>
gd (wantB v_122 true) (fun c => arb (.of (aBin P .lss 3 (.tmp 30) (.const (.int .i64 0)) v_124 (.int .i64 0)) h125) call c) h125 fun v_126 h127 =>
arb (pkR v_122 v_126 (.bool false) h127) call fun v_128 h129 =>
cb v_128 (
arb (.val (t 7) h129) call fun v_130 h131 =>
arb (.val v_130 h131) call fun first_132 h133 =>
arb (.of (ld1 h133 k_103) h133) call fun v_134 h135 =>
arb (.val v_134 h135) call fun e_136 h137 =>
k117 .normal (upd (upd (upd (upd (upd (upd (upd (upd (upd (upd (upd (upd (upd (upd (upd (upd (upd t 21 v_91) 22 v_93) 23 v_95) 24 v_97) 25 v_99) 26 v_101) 8 k_103) 27 v_118) 28 v_120) 29 v_122) 30 v_124) 31 v_126) 32 v_128) 33 v_130) 5 first_132) 34 v_134) 6 e_136) h137) (
k117 .normal (upd (upd (upd (upd (upd (upd (upd (upd (upd (upd (upd (upd (upd t 21 v_91) 22 v_93) 23 v_95) 24 v_97) 25 v_99) 26 v_101) 8 k_103) 27 v_118) 28 v_120) 29 v_122) 30 v_124) 31 v_126) 32 v_128) h129)

def L_precentorlaw1_TrapCounts_2 (P : Program) (call : FuncId → List AVal → Heap → Res AVal) (fuel : Nat) (t : T) (h : Heap) : Res (Ex × T) :=
lt okK fun k =>
lt (sqK (J_precentorlaw1_TrapCounts_3 P call fuel k) k) fun k138 =>
arb (.val (t 7) h) call fun v_139 h140 =>
arb (.val (t 0) h140) call fun v_141 h142 =>
arb (.of (lenL v_141) h142) call fun v_143 h144 =>
arb (.of (aBin P .lss 3 (.tmp 11) (.tmp 13) v_139 v_143) h144) call fun v_145 h146 =>
arb (.val v_145 h146) call fun v_147 h148 =>
gd (wantB v_147 true) (fun c => arb (.val (t 7) h148) call c) h148 fun v_149 h150 =>
gd (wantB v_147 true) (fun c => arb (.of (aBin P .lss 3 (.tmp 16) (.const (.int .i64 20)) v_149 (.int .i64 20)) h150) call c) h150 fun v_151 h152 =>
arb (pkR v_147 v_151 (.bool false) h152) call fun v_153 h154 =>
cb v_153 (
k138 .normal (upd (upd (upd (upd (upd (upd (upd (upd t 11 v_139) 12 v_141) 13 v_143) 14 v_145) 15 v_147) 16 v_149) 17 v_151) 18 v_153) h154) (
k138 (.exit 0) (upd (upd (upd (upd (upd (upd (upd (upd t 11 v_139) 12 v_141) 13 v_143) 14 v_145) 15 v_147) 16 v_149) 17 v_151) 18 v_153) h154)

def S_precentorlaw1_TrapCounts (P : Program) (call : FuncId → List AVal → Heap → Res AVal) (fuel : Nat) (l_a0 : AVal) (h : Heap) : Res AVal :=
lt (retK P [.tmp 2]) fun k =>
arb (.val (.bool false) h) call fun v_0 h1 =>
arb (.val .nils h1) call fun fs_2 h3 =>
arb (newR [(.int .i64 0)] h3) call fun called_4 h5 =>
arb (stR 1 h5 called_4 (.int .i64 0)) call fun v_6 h7 =>
arb (.val (.int .i64 (-1)) h7) call fun first_8 h9 =>
arb (.val (.int .i64 0) h9) call fun e_10 h11 =>
lt (sqK (J_precentorlaw1_TrapCounts_0 P call fuel k) k) fun k79 =>
arb (.val (.int .i64 0) h11) call fun i_80 h81 =>
lt (blkK 0 k79) fun k82 =>
(loopN (L_precentorlaw1_TrapCounts_2 P call fuel) fuel (upd (upd (upd (upd (upd (upd (enterT [l_a0]) 2 v_0) 3 fs_2) 4 called_4) 5 first_8) 6 e_10) 7 i_80) h81).bind (lpK k82)
theorem E_precentorlaw1_TrapCounts (call : FuncId → List AVal → Heap → Res AVal) (fuel : Nat) (l_a0 : AVal) (h : Heap) : bodyR Try.prog call fuel Try.f6 [l_a0] h = S_precentorlaw1_TrapCounts Try.prog call fuel l_a0 h := by kernel_rfl
theorem R_precentorlaw1_TrapCounts {X : XTab} (l_a0 : AVal) {h : Heap} {Q : AVal → Heap → Prop} (hx : X F_precentorlaw1_TrapCounts [l_a0] = none) (q : Tells (fun m => S_precentorlaw1_TrapCounts Try.prog (acallX Try.prog X m) m l_a0 h) Q) :
    Tells (fun m => acallX Try.prog X m F_precentorlaw1_TrapCounts [l_a0] h) Q :=
  Tells.later (q.le fun m => (E_precentorlaw1_TrapCounts (acallX Try.prog X m) m l_a0 h) ▸ acallX_le Try.func6 hx m h)
theorem RV_precentorlaw1_TrapCounts {X : XTab} {V : AVal → Heap → Prop} (l_a0 : AVal) {h : Heap} {Q : AVal → Heap → Prop} (hx : X F_precentorlaw1_TrapCounts [l_a0] = none) (q : TellsV V (fun m => S_precentorlaw1_TrapCounts Try.prog (acallX Try.prog X m) m l_a0 h) Q) :
    TellsV V (fun m => acallX Try.prog X m F_precentorlaw1_TrapCounts [l_a0] h) Q :=
  TV.later (TV.le q fun m => (E_precentorlaw1_TrapCounts (acallX Try.prog X m) m l_a0 h) ▸ acallX_le Try.func6 hx m h)

/-! ### precentor/precentorlaw1.TrapKnown$1 -/

def S_precentorlaw1_TrapKnown_1 (P : Program) (call : FuncId → List AVal → Heap → Res AVal) (fuel : Nat) (h : Heap) : Res AVal :=
lt (retK P []) fun k =>
arb (.call F_trap_Stop [(.int .i64 3)] h) call fun v_0 h1 =>
k .normal (upd (enterT []) 0 v_0) h1
theorem E_precentorlaw1_TrapKnown_1 (call : FuncId → List AVal → Heap → Res AVal) (fuel : Nat) (h : Heap) : bodyR Try.prog call fuel Try.f8 [] h = S_precentorlaw1_TrapKnown_1 Try.prog call fuel  h := by kernel_rfl
theorem R_precentorlaw1_TrapKnown_1 {X : XTab} {h : Heap} {Q : AVal → Heap → Prop} (hx : X F_precentorlaw1_TrapKnown_1 [] = none) (q : Tells (fun m => S_precentorlaw1_TrapKnown_1 Try.prog (acallX Try.prog X m) m  h) Q) :
    Tells (fun m => acallX Try.prog X m F_precentorlaw1_TrapKnown_1 [] h) Q :=
  Tells.later (q.le fun m => (E_precentorlaw1_TrapKnown_1 (acallX Try.prog X m) m  h) ▸ acallX_le Try.func8 hx m h)
theorem RV_precentorlaw1_TrapKnown_1 {X : XTab} {V : AVal → Heap → Prop} {h : Heap} {Q : AVal → Heap → Prop} (hx : X F_precentorlaw1_TrapKnown_1 [] = none) (q : TellsV V (fun m => S_precentorlaw1_TrapKnown_1 Try.prog (acallX Try.prog X m) m  h) Q) :
    TellsV V (fun m => acallX Try.prog X m F_precentorlaw1_TrapKnown_1 [] h) Q :=
  TV.later (TV.le q fun m => (E_precentorlaw1_TrapKnown_1 (acallX Try.prog X m) m  h) ▸ acallX_le Try.func8 hx m h)

/-! ### precentor/precentorlaw1.TrapKnown$2 -/

def S_precentorlaw1_TrapKnown_2 (P : Program) (call : FuncId → List AVal → Heap → Res AVal) (fuel : Nat) (h : Heap) : Res AVal :=
lt (retK P []) fun k =>
k .normal (enterT []) h
theorem E_precentorlaw1_TrapKnown_2 (call : FuncId → List AVal → Heap → Res AVal) (fuel : Nat) (h : Heap) : bodyR Try.prog call fuel Try.f11 [] h = S_precentorlaw1_TrapKnown_2 Try.prog call fuel  h := by kernel_rfl
theorem R_precentorlaw1_TrapKnown_2 {X : XTab} {h : Heap} {Q : AVal → Heap → Prop} (hx : X F_precentorlaw1_TrapKnown_2 [] = none) (q : Tells (fun m => S_precentorlaw1_TrapKnown_2 Try.prog (acallX Try.prog X m) m  h) Q) :
    Tells (fun m => acallX Try.prog X m F_precentorlaw1_TrapKnown_2 [] h) Q :=
  Tells.later (q.le fun m => (E_precentorlaw1_TrapKnown_2 (acallX Try.prog X m) m  h) ▸ acallX_le Try.func11 hx m h)
theorem RV_precentorlaw1_TrapKnown_2 {X : XTab} {V : AVal → Heap → Prop} {h : Heap} {Q : AVal → Heap → Prop} (hx : X F_precentorlaw1_TrapKnown_2 [] = none) (q : TellsV V (fun m => S_precentorlaw1_TrapKnown_2 Try.prog (acallX Try.prog X m) m  h) Q) :
    TellsV V (fun m => acallX Try.prog X m F_precentorlaw1_TrapKnown_2 [] h) Q :=
  TV.later (TV.le q fun m => (E_precentorlaw1_TrapKnown_2 (acallX Try.prog X m) m  h) ▸ acallX_le Try.func11 hx m h)

/-! ### precentor/precentorlaw1.TrapKnown$3 -/

def S_precentorlaw1_TrapKnown_3 (P : Program) (call : FuncId → List AVal → Heap → Res AVal) (fuel : Nat) (h : Heap) : Res AVal :=
lt (retK P []) fun k =>
arb (.call F_trap_Stop [(.int .i64 6)] h) call fun v_0 h1 =>
k .normal (upd (enterT []) 0 v_0) h1
theorem E_precentorlaw1_TrapKnown_3 (call : FuncId → List AVal → Heap → Res AVal) (fuel : Nat) (h : Heap) : bodyR Try.prog call fuel Try.f12 [] h = S_precentorlaw1_TrapKnown_3 Try.prog call fuel  h := by kernel_rfl
theorem R_precentorlaw1_TrapKnown_3 {X : XTab} {h : Heap} {Q : AVal → Heap → Prop} (hx : X F_precentorlaw1_TrapKnown_3 [] = none) (q : Tells (fun m => S_precentorlaw1_TrapKnown_3 Try.prog (acallX Try.prog X m) m  h) Q) :
    Tells (fun m => acallX Try.prog X m F_precentorlaw1_TrapKnown_3 [] h) Q :=
  Tells.later (q.le fun m => (E_precentorlaw1_TrapKnown_3 (acallX Try.prog X m) m  h) ▸ acallX_le Try.func12 hx m h)
theorem RV_precentorlaw1_TrapKnown_3 {X : XTab} {V : AVal → Heap → Prop} {h : Heap} {Q : AVal → Heap → Prop} (hx : X F_precentorlaw1_TrapKnown_3 [] = none) (q : TellsV V (fun m => S_precentorlaw1_TrapKnown_3 Try.prog (acallX Try.prog X m) m  h) Q) :
    TellsV V (fun m => acallX Try.prog X m F_precentorlaw1_TrapKnown_3 [] h) Q :=
  TV.later (TV.le q fun m => (E_precentorlaw1_TrapKnown_3 (acallX Try.prog X m) m  h) ▸ acallX_le Try.func12 hx m h)

/-! ### precentor/precentorlaw1.TrapKnown$4 -/

def S_precentorlaw1_TrapKnown_4 (P : Program) (call : FuncId → List AVal → Heap → Res AVal) (fuel : Nat) (a0 : AVal) (h : Heap) : Res AVal :=
lt (retK P []) fun k =>
arb (stR 1 h a0 (.bool true)) call fun v_0 h1 =>
k .normal (enterT [a0]) h1
theorem E_precentorlaw1_TrapKnown_4 (call : FuncId → List AVal → Heap → Res AVal) (fuel : Nat) (a0 : AVal) (h : Heap) : bodyR Try.prog call fuel Try.f13 [a0] h = S_precentorlaw1_TrapKnown_4 Try.prog call fuel a0 h := by kernel_rfl
theorem R_precentorlaw1_TrapKnown_4 {X : XTab} (a0 : AVal) {h : Heap} {Q : AVal → Heap → Prop} (hx : X F_precentorlaw1_TrapKnown_4 [a0] = none) (q : Tells (fun m => S_precentorlaw1_TrapKnown_4 Try.prog (acallX Try.prog X m) m a0 h) Q) :
    Tells (fun m => acallX Try.prog X m F_precentorlaw1_TrapKnown_4 [a0] h) Q :=
  Tells.later (q.le fun m => (E_precentorlaw1_TrapKnown_4 (acallX Try.prog X m) m a0 h) ▸ acallX_le Try.func13 hx m h)
theorem RV_precentorlaw1_TrapKnown_4 {X : XTab} {V : AVal → Heap → Prop} (a0 : AVal) {h : Heap} {Q : AVal → Heap → Prop} (hx : X F_precentorlaw1_TrapKnown_4 [a0] = none) (q : TellsV V (fun m => S_precentorlaw1_TrapKnown_4 Try.prog (acallX Try.prog X m) m a0 h) Q) :
    TellsV V (fun m => acallX Try.prog X m F_precentorlaw1_TrapKnown_4 [a0] h) Q :=
  TV.later (TV.le q fun m => (E_precentorlaw1_TrapKnown_4 (acallX Try.prog X m) m a0 h) ▸ acallX_le Try.func13 hx m h)

/-! ### precentor/precentorlaw1.TrapKnown$5 -/

def S_precentorlaw1_TrapKnown_5 (P : Program) (call : FuncId → List AVal → Heap → Res AVal) (fuel : Nat) (h : Heap) : Res AVal :=
lt (retK P []) fun k =>
arb (.call F_trap_Stop [(.int .i64 0)] h) call fun v_0 h1 =>
arb (.call F_trap_Need [(.bool true), (.int .i64 1)] h1) call fun v_2 h3 =>
k .normal (upd (upd (enterT []) 0 v_0) 1 v_2) h3
theorem E_precentorlaw1_TrapKnown_5 (call : FuncId → List AVal → Heap → Res AVal) (fuel : Nat) (h : Heap) : bodyR Try.prog call fuel Try.f14 [] h = S_precentorlaw1_TrapKnown_5 Try.prog call fuel  h := by kernel_rfl
theorem R_precentorlaw1_TrapKnown_5 {X : XTab} {h : Heap} {Q : AVal → Heap → Prop} (hx : X F_precentorlaw1_TrapKnown_5 [] = none) (q : Tells (fun m => S_precentorlaw1_TrapKnown_5 Try.prog (acallX Try.prog X m) m  h) Q) :
    Tells (fun m => acallX Try.prog X m F_precentorlaw1_TrapKnown_5 [] h) Q :=
  Tells.later (q.le fun m => (E_precentorlaw1_TrapKnown_5 (acallX Try.prog X m) m  h) ▸ acallX_le Try.func14 hx m h)
theorem RV_precentorlaw1_TrapKnown_5 {X : XTab} {V : AVal → Heap → Prop} {h : Heap} {Q : AVal → Heap → Prop} (hx : X F_precentorlaw1_TrapKnown_5 [] = none) (q : TellsV V (fun m => S_precentorlaw1_TrapKnown_5 Try.prog (acallX Try.prog X m) m  h) Q) :
    TellsV V (fun m => acallX Try.prog X m F_precentorlaw1_TrapKnown_5 [] h) Q :=
  TV.later (TV.le q fun m => (E_precentorlaw1_TrapKnown_5 (acallX Try.prog X m) m  h) ▸ acallX_le Try.func14 hx m h)

/-! ### precentor/precentorlaw1.TrapKnown$6 -/

def S_precentorlaw1_TrapKnown_6 (P : Program) (call : FuncId → List AVal → Heap → Res AVal) (fuel : Nat) (h : Heap) : Res AVal :=
lt (retK P []) fun k =>
arb (.call F_trap_Need [(.bool false), (.int .i64 4)] h) call fun v_0 h1 =>
k .normal (upd (enterT []) 0 v_0) h1
theorem E_precentorlaw1_TrapKnown_6 (call : FuncId → List AVal → Heap → Res AVal) (fuel : Nat) (h : Heap) : bodyR Try.prog call fuel Try.f16 [] h = S_precentorlaw1_TrapKnown_6 Try.prog call fuel  h := by kernel_rfl
theorem R_precentorlaw1_TrapKnown_6 {X : XTab} {h : Heap} {Q : AVal → Heap → Prop} (hx : X F_precentorlaw1_TrapKnown_6 [] = none) (q : Tells (fun m => S_precentorlaw1_TrapKnown_6 Try.prog (acallX Try.prog X m) m  h) Q) :
    Tells (fun m => acallX Try.prog X m F_precentorlaw1_TrapKnown_6 [] h) Q :=
  Tells.later (q.le fun m => (E_precentorlaw1_TrapKnown_6 (acallX Try.prog X m) m  h) ▸ acallX_le Try.func16 hx m h)
theorem RV_precentorlaw1_TrapKnown_6 {X : XTab} {V : AVal → Heap → Prop} {h : Heap} {Q : AVal → Heap → Prop} (hx : X F_precentorlaw1_TrapKnown_6 [] = none) (q : TellsV V (fun m => S_precentorlaw1_TrapKnown_6 Try.prog (acallX Try.prog X m) m  h) Q) :
    TellsV V (fun m => acallX Try.prog X m F_precentorlaw1_TrapKnown_6 [] h) Q :=
  TV.later (TV.le q fun m => (E_precentorlaw1_TrapKnown_6 (acallX Try.prog X m) m  h) ▸ acallX_le Try.func16 hx m h)

/-! ### precentor/precentorlaw1.TrapKnown$7$1 -/

def S_precentorlaw1_TrapKnown_7_1 (P : Program) (call : FuncId → List AVal → Heap → Res AVal) (fuel : Nat) (h : Heap) : Res AVal :=
lt (retK P []) fun k =>
arb (.call F_trap_Stop [(.int .i64 7)] h) call fun v_0 h1 =>
k .normal (upd (enterT []) 0 v_0) h1
theorem E_precentorlaw1_TrapKnown_7_1 (call : FuncId → List AVal → Heap → Res AVal) (fuel : Nat) (h : Heap) : bodyR Try.prog call fuel Try.f18 [] h = S_precentorlaw1_TrapKnown_7_1 Try.prog call fuel  h := by kernel_rfl
theorem R_precentorlaw1_TrapKnown_7_1 {X : XTab} {h : Heap} {Q : AVal → Heap → Prop} (hx : X F_precentorlaw1_TrapKnown_7_1 [] = none) (q : Tells (fun m => S_precentorlaw1_TrapKnown_7_1 Try.prog (acallX Try.prog X m) m  h) Q) :
    Tells (fun m => acallX Try.prog X m F_precentorlaw1_TrapKnown_7_1 [] h) Q :=
  Tells.later (q.le fun m => (E_precentorlaw1_TrapKnown_7_1 (acallX Try.prog X m) m  h) ▸ acallX_le Try.func18 hx m h)
theorem RV_precentorlaw1_TrapKnown_7_1 {X : XTab} {V : AVal → Heap → Prop} {h : Heap} {Q : AVal → Heap → Prop} (hx : X F_precentorlaw1_TrapKnown_7_1 [] = none) (q : TellsV V (fun m => S_precentorlaw1_TrapKnown_7_1 Try.prog (acallX Try.prog X m) m  h) Q) :
    TellsV V (fun m => acallX Try.prog X m F_precentorlaw1_TrapKnown_7_1 [] h) Q :=
  TV.later (TV.le q fun m => (E_precentorlaw1_TrapKnown_7_1 (acallX Try.prog X m) m  h) ▸ acallX_le Try.func18 hx m h)

/-! ### precentor/precentorlaw1.TrapPlays$1 -/

def S_precentorlaw1_TrapPlays_1 (P : Program) (call : FuncId → List AVal → Heap → Res AVal) (fuel : Nat) (a0 : AVal) (h : Heap) : Res AVal :=
lt (retK P []) fun k =>
arb (.of (ld1 h a0) h) call fun v_0 h1 =>
arb (.call F_precentorlaw1_player_run [v_0, (.int .i64 0)] h1) call fun v_2 h3 =>
k .normal (upd (upd (enterT [a0]) 1 v_0) 2 v_2) h3
theorem E_precentorlaw1_TrapPlays_1 (call : FuncId → List AVal → Heap → Res AVal) (fuel : Nat) (a0 : AVal) (h : Heap) : bodyR Try.prog call fuel Try.f20 [a0] h = S_precentorlaw1_TrapPlays_1 Try.prog call fuel a0 h := by kernel_rfl
theorem R_precentorlaw1_TrapPlays_1 {X : XTab} (a0 : AVal) {h : Heap} {Q : AVal → Heap → Prop} (hx : X F_precentorlaw1_TrapPlays_1 [a0] = none) (q : Tells (fun m => S_precentorlaw1_TrapPlays_1 Try.prog (acallX Try.prog X m) m a0 h) Q) :
    Tells (fun m => acallX Try.prog X m F_precentorlaw1_TrapPlays_1 [a0] h) Q :=
  Tells.later (q.le fun m => (E_precentorlaw1_TrapPlays_1 (acallX Try.prog X m) m a0 h) ▸ acallX_le Try.func20 hx m h)
theorem RV_precentorlaw1_TrapPlays_1 {X : XTab} {V : AVal → Heap → Prop} (a0 : AVal) {h : Heap} {Q : AVal → Heap → Prop} (hx : X F_precentorlaw1_TrapPlays_1 [a0] = none) (q : TellsV V (fun m => S_precentorlaw1_TrapPlays_1 Try.prog (acallX Try.prog X m) m a0 h) Q) :
    TellsV V (fun m => acallX Try.prog X m F_precentorlaw1_TrapPlays_1 [a0] h) Q :=
  TV.later (TV.le q fun m => (E_precentorlaw1_TrapPlays_1 (acallX Try.prog X m) m a0 h) ▸ acallX_le Try.func20 hx m h)

/-! ### (*precentor/precentorlaw1.player).run -/
def J_precentorlaw1_player_run_1 (P : Program) (call : FuncId → List AVal → Heap → Res AVal) (fuel : Nat) (k : Kn (Ex × T)) (t : T) (h : Heap) : Res (Ex × T) :=
lt (blkK 1 k) fun k5 =>
arb (.of (ld1 h (t 2)) h) call fun v_6 h7 =>
arb (.call F_precentorlaw1_player_step [v_6] h7) call fun v_8 h9 =>
arb (newR [(.int .i64 0), (.int .i64 0)] h9) call fun x_10 h11 =>
arb (stR 2 h11 x_10 v_8) call fun v_12 h13 =>
arb (.of (fadR 0 x_10) h13) call fun v_14 h15 =>
arb (.of (ld1 h15 v_14) h15) call fun v_16 h17 =>
lt (blkK 2 k5) fun k18 =>
arb (.of (aBin P .eql 3 (.tmp 13) (.const (.int .i64 3)) v_16 (.int .i64 3)) h17) call fun v_19 h20 =>
arb (.val v_19 h20) call fun v_21 h22 =>
cb v_21 (
arb (.of (ld1 h22 (t 3)) h22) call fun v_23 h24 =>
arb (.of (aBin P .lss 3 (.tmp 27) (.const (.int .i64 5)) v_23 (.int .i64 5)) h24) call fun v_25 h26 =>
cb v_25 (
arb (.val (.fn F_precentorlaw1_player_run_1 [] [(t 2), (t 3)]) h26) call fun v_27 h28 =>
arb (.call F_trap_Run [v_27] h28) call fun v_29 h30 =>
arb (.val v_29 h30) call fun e_31 h32 =>
obv (.of (ld1 h32 (t 2)) h32) fun v_33 => ifb true <|
obv (.of (ld1 h32 (t 2)) h32) fun v_35 => ifb true <|
obv (nckR v_35 h32) fun v_37 =>
obv (.of (fadR 2 v_37) h32) fun v_39 =>
obv (.of (ld1 h32 v_39) h32) fun v_41 => ifb true <|
obv (.val e_31 h32) fun v_43 =>
obv (.of (aBin P .add 3 (.const (.int .i64 100)) (.tmp 36) (.int .i64 100) v_43) h32) fun v_45 =>
arbV (bslR 1 [(.int .i64 0)] 1 h32 [(0, 1, v_45)]) fun v_47 h48 =>
arbE (appR 1 8 h48 v_41 v_47) call fun v_49 h50 => lt h50 fun g50 => ifb (true && (isV v_33 (arVal (.of (ld1 (killIf true g50 h32.next) (t 2)) (killIf true g50 h32.next))) && true)) <|
obv (nckR v_33 g50) fun v_51 =>
obv (.of (fadR 2 v_51) g50) fun v_53 =>
arbE (stR 1 g50 v_53 v_49) call fun v_55 h56 => lt h56 fun g56 => ifb (true && true) <|
k18 .normal (upd (upd (upd (upd (upd (upd (upd (upd (upd (upd (upd (upd (upd (upd (upd (upd (upd (upd (upd (upd (upd (upd (upd t 10 v_6) 11 v_8) 4 x_10) 12 v_14) 13 v_16) 26 v_19) 25 v_21) 27 v_23) 28 v_25) 29 v_27) 30 v_29) 5 e_31) 31 v_33) 32 v_35) 33 v_37) 34 v_39) 35 v_41) 36 v_43) 37 v_45) 38 v_47) 39 v_49) 40 v_51) 41 v_53) g56) (
k18 .normal (upd (upd (upd (upd (upd (upd (upd (upd (upd t 10 v_6) 11 v_8) 4 x_10) 12 v_14) 13 v_16) 26 v_19) 25 v_21) 27 v_23) 28 v_25) h26)) (
arb (.of (aBin P .eql 3 (.tmp 13) (.const (.int .i64 4)) v_16 (.int .i64 4)) h22) call fun v_57 h58 =>
arb (.val v_57 h58) call fun v_59 h60 =>
cb v_59 (
arb (.of (ld1 h60 (t 3)) h60) call fun v_61 h62 =>
arb (.of (aBin P .lss 3 (.tmp 44) (.const (.int .i64 5)) v_61 (.int .i64 5)) h62) call fun v_63 h64 =>
cb v_63 (
arb (.val (.fn F_precentorlaw1_player_run_2 [] [(t 2), (t 3)]) h64) call fun v_65 h66 =>
arb (.val (.fn F_precentorlaw1_player_run_3 [] [(t 2), (t 3)]) h66) call fun v_67 h68 =>
arb (bslR 1 [.nilf, .nilf] 2 h68 [(0, 1, v_65), (1, 1, v_67)]) call fun v_69 h70 =>
arb (.call F_trap_Each [v_69] h70) call fun v_71 h72 =>
arb (.val v_71 h72) call fun v_73 h74 =>
arb (extR v_73 0 h74) call fun v_75 h76 =>
arb (extR v_73 1 h76) call fun v_77 h78 =>
arb (.val v_75 h78) call fun n_79 h80 =>
arb (.val v_77 h80) call fun e_81 h82 =>
obv (.of (ld1 h82 (t 2)) h82) fun v_83 => ifb true <|
obv (.of (ld1 h82 (t 2)) h82) fun v_85 => ifb true <|
obv (nckR v_85 h82) fun v_87 =>
obv (.of (fadR 2 v_87) h82) fun v_89 =>
obv (.of (ld1 h82 v_89) h82) fun v_91 => ifb true <|
obv (.val n_79 h82) fun v_93 =>
obv (.of (aBin P .mul 3 (.const (.int .i64 10)) (.tmp 58) (.int .i64 10) v_93) h82) fun v_95 =>
obv (.of (aBin P .add 3 (.const (.int .i64 200)) (.tmp 59) (.int .i64 200) v_95) h82) fun v_97 =>
obv (.val e_81 h82) fun v_99 =>
obv (.of (aBin P .add 3 (.tmp 60) (.tmp 61) v_97 v_99) h82) fun v_101 =>
arbV (bslR 1 [(.int .i64 0)] 1 h82 [(0, 1, v_101)]) fun v_103 h104 =>
arbE (appR 1 8 h104 v_91 v_103) call fun v_105 h106 => lt h106 fun g106 => ifb (true && (isV v_83 (arVal (.of (ld1 (killIf true g106 h82.next) (t 2)) (killIf true g106 h82.next))) && true)) <|
obv (nckR v_83 g106) fun v_107 =>
obv (.of (fadR 2 v_107) g106) fun v_109 =>
arbE (stR 1 g106 v_109 v_105) call fun v_111 h112 => lt h112 fun g112 => ifb (true && true) <|
k18 .normal (upd (upd (upd (upd (upd (upd (upd (upd (upd (upd (upd (upd (upd (upd (upd (upd (upd (upd (upd (upd (upd (upd (upd (upd (upd (upd (upd (upd (upd (upd (upd (upd (upd (upd t 10 v_6) 11 v_8) 4 x_10) 12 v_14) 13 v_16) 26 v_19) 25 v_21) 43 v_57) 42 v_59) 44 v_61) 45 v_63) 47 v_65) 48 v_67) 49 v_69) 50 v_71) 46 v_73) 51 v_75) 52 v_77) 6 n_79) 7 e_81) 53 v_83) 54 v_85) 55 v_87) 56 v_89) 57 v_91) 58 v_93) 59 v_95) 60 v_97) 61 v_99) 62 v_101) 63 v_103) 64 v_105) 65 v_107) 66 v_109) g112) (
k18 .normal (upd (upd (upd (upd (upd (upd (upd (upd (upd (upd (upd t 10 v_6) 11 v_8) 4 x_10) 12 v_14) 13 v_16) 26 v_19) 25 v_21) 43 v_57) 42 v_59) 44 v_61) 45 v_63) h64)) (
arb (.of (aBin P .eql 3 (.tmp 13) (.const (.int .i64 5)) v_16 (.int .i64 5)) h60) call fun v_113 h114 =>
arb (.val v_113 h114) call fun v_115 h116 =>
cb v_115 (
k18 .ret (upd (upd (upd (upd (upd (upd (upd (upd (upd (upd (upd t 10 v_6) 11 v_8) 4 x_10) 12 v_14) 13 v_16) 26 v_19) 25 v_21) 43 v_57) 42 v_59) 68 v_113) 67 v_115) h116) (
arb (.of (aBin P .eql 3 (.tmp 13) (.const (.int .i64 6)) v_16 (.int .i64 6)) h116) call fun v_117 h118 =>
arb (.val v_117 h118) call fun v_119 h120 =>
cb v_119 (
arb (.of (fadR 1 x_10) h120) call fun v_121 h122 =>
arb (.of (ld1 h122 v_121) h122) call fun v_123 h124 =>
arb (.call F_trap_Stop [v_123] h124) call fun v_125 h126 =>
k18 .normal (upd (upd (upd (upd (upd (upd (upd (upd (upd (upd (upd (upd (upd (upd (upd (upd t 10 v_6) 11 v_8) 4 x_10) 12 v_14) 13 v_16) 26 v_19) 25 v_21) 43 v_57) 42 v_59) 68 v_113) 67 v_115) 70 v_117) 69 v_119) 71 v_121) 72 v_123) 73 v_125) h126) (
arb (.of (aBin P .eql 3 (.tmp 13) (.const (.int .i64 7)) v_16 (.int .i64 7)) h120) call fun v_127 h128 =>
arb (.val v_127 h128) call fun v_129 h130 =>
cb v_129 (
arb (.of (fadR 1 x_10) h130) call fun v_131 h132 =>
arb (.of (ld1 h132 v_131) h132) call fun v_133 h134 =>
arb (.of (aBin P .rem 3 (.tmp 77) (.const (.int .i64 2)) v_133 (.int .i64 2)) h134) call fun v_135 h136 =>
arb (.of (aBin P .eql 3 (.tmp 78) (.const (.int .i64 0)) v_135 (.int .i64 0)) h136) call fun v_137 h138 =>
arb (.of (fadR 1 x_10) h138) call fun v_139 h140 =>
arb (.of (ld1 h140 v_139) h140) call fun v_141 h142 =>
arb (.call F_trap_Need [v_137, v_141] h142) call fun v_143 h144 =>
k18 .normal (upd (upd (upd (upd (upd (upd (upd (upd (upd (upd (upd (upd (upd (upd (upd (upd (upd (upd (upd (upd (upd (upd t 10 v_6) 11 v_8) 4 x_10) 12 v_14) 13 v_16) 26 v_19) 25 v_21) 43 v_57) 42 v_59) 68 v_113) 67 v_115) 70 v_117) 69 v_119) 75 v_127) 74 v_129) 76 v_131) 77 v_133) 78 v_135) 79 v_137) 80 v_139) 81 v_141) 82 v_143) h144) (
arb (.of (aBin P .eql 3 (.tmp 13) (.const (.int .i64 8)) v_16 (.int .i64 8)) h130) call fun v_145 h146 =>
arb (.val v_145 h146) call fun v_147 h148 =>
cb v_147 (
arb (.val (.fn F_precentorlaw1_player_run_4 [] [x_10]) h148) call fun v_149 h150 =>
arb (clvR P v_149 [] h150) call fun v_151 h152 =>
k18 .normal (upd (upd (upd (upd (upd (upd (upd (upd (upd (upd (upd (upd (upd (upd (upd (upd (upd (upd (upd t 10 v_6) 11 v_8) 4 x_10) 12 v_14) 13 v_16) 26 v_19) 25 v_21) 43 v_57) 42 v_59) 68 v_113) 67 v_115) 70 v_117) 69 v_119) 75 v_127) 74 v_129) 84 v_145) 83 v_147) 85 v_149) 86 v_151) h152) (
obv (.of (ld1 h148 (t 2)) h148) fun v_153 => ifb true <|
obv (.of (ld1 h148 (t 2)) h148) fun v_155 => ifb true <|
obv (nckR v_155 h148) fun v_157 =>
obv (.of (fadR 2 v_157) h148) fun v_159 =>
obv (.of (ld1 h148 v_159) h148) fun v_161 => ifb true <|
obv (.of (fadR 1 x_10) h148) fun v_163 =>
obv (.of (ld1 h148 v_163) h148) fun v_165 => ifb true <|
arbV (bslR 1 [(.int .i64 0)] 1 h148 [(0, 1, v_165)]) fun v_167 h168 =>
arbE (appR 1 8 h168 v_161 v_167) call fun v_169 h170 => lt h170 fun g170 => ifb (true && (isV v_153 (arVal (.of (ld1 (killIf true g170 h148.next) (t 2)) (killIf true g170 h148.next))) && true)) <|
obv (nckR v_153 g170) fun v_171 =>
obv (.of (fadR 2 v_171) g170) fun v_173 =>
arbE (stR 1 g170 v_173 v_169) call fun v_175 h176 => lt h176 fun g176 => ifb (true && true) <|
k18 .normal (upd (upd (upd (upd (upd (upd (upd (upd (upd (upd (upd (upd (upd (upd (upd (upd (upd (upd (upd (upd (upd (upd (upd (upd (upd (upd (upd (upd t 10 v_6) 11 v_8) 4 x_10) 12 v_14) 13 v_16) 26 v_19) 25 v_21) 43 v_57) 42 v_59) 68 v_113) 67 v_115) 70 v_117) 69 v_119) 75 v_127) 74 v_129) 84 v_145) 83 v_147) 14 v_153) 15 v_155) 16 v_157) 17 v_159) 18 v_161) 19 v_163) 20 v_165) 21 v_167) 22 v_169) 23 v_171) 24 v_173) g176))))))

def L_precentorlaw1_player_run_0 (P : Program) (call : FuncId → List AVal → Heap → Res AVal) (fuel : Nat) (t : T) (h : Heap) : Res (Ex × T) :=
lt okK fun k =>
lt (sqK (J_precentorlaw1_player_run_1 P call fuel k) k) fun k177 =>
arb (.of (ld1 h (t 2)) h) call fun v_178 h179 =>
arb (.call F_precentorlaw1_player_more [v_178] h179) call fun v_180 h181 =>
cb v_180 (
k177 .normal (upd (upd t 8 v_178) 9 v_180) h181) (
k177 (.exit 0) (upd (upd t 8 v_178) 9 v_180) h181)

def S_precentorlaw1_player_run (P : Program) (call : FuncId → List AVal → Heap → Res AVal) (fuel : Nat) (p_a0 deep_a1 : AVal) (h : Heap) : Res AVal :=
lt (retK P []) fun k =>
arb (boxR p_a0 h) call fun p_0 h1 =>
arb (boxR deep_a1 h1) call fun deep_2 h3 =>
lt (blkK 0 k) fun k4 =>
(loopN (L_precentorlaw1_player_run_0 P call fuel) fuel (upd (upd (enterT [p_a0, deep_a1]) 2 p_0) 3 deep_2) h3).bind (lpK k4)
theorem E_precentorlaw1_player_run (call : FuncId → List AVal → Heap → Res AVal) (fuel : Nat) (p_a0 deep_a1 : AVal) (h : Heap) : bodyR Try.prog call fuel Try.f21 [p_a0, deep_a1] h = S_precentorlaw1_player_run Try.prog call fuel p_a0 deep_a1 h := by kernel_rfl
theorem R_precentorlaw1_player_run {X : XTab} (p_a0 deep_a1 : AVal) {h : Heap} {Q : AVal → Heap → Prop} (hx : X F_precentorlaw1_player_run [p_a0, deep_a1] = none) (q : Tells (fun m => S_precentorlaw1_player_run Try.prog (acallX Try.prog X m) m p_a0 deep_a1 h) Q) :
    Tells (fun m => acallX Try.prog X m F_precentorlaw1_player_run [p_a0, deep_a1] h) Q :=
  Tells.later (q.le fun m => (E_precentorlaw1_player_run (acallX Try.prog X m) m p_a0 deep_a1 h) ▸ acallX_le Try.func21 hx m h)
theorem RV_precentorlaw1_player_run {X : XTab} {V : AVal → Heap → Prop} (p_a0 deep_a1 : AVal) {h : Heap} {Q : AVal → Heap → Prop} (hx : X F_precentorlaw1_player_run [p_a0, deep_a1] = none) (q : TellsV V (fun m => S_precentorlaw1_player_run Try.prog (acallX Try.prog X m) m p_a0 deep_a1 h) Q) :
    TellsV V (fun m => acallX Try.prog X m F_precentorlaw1_player_run [p_a0, deep_a1] h) Q :=
  TV.later (TV.le q fun m => (E_precentorlaw1_player_run (acallX Try.prog X m) m p_a0 deep_a1 h) ▸ acallX_le Try.func21 hx m h)

/-! ### (*precentor/precentorlaw1.player).want -/
def J_precentorlaw1_player_want_0 (P : Program) (call : FuncId → List AVal → Heap → Res AVal) (fuel : Nat) (k : Kn (AVal)) (t : T) (h : Heap) : Res (AVal) :=
arb (.val (.int .i64 0) h) call fun v_2 h3 =>
k .ret (upd t 4 v_2) h3

def J_precentorlaw1_player_want_3 (P : Program) (call : FuncId → List AVal → Heap → Res AVal) (fuel : Nat) (k : Kn (Ex × T)) (t : T) (h : Heap) : Res (Ex × T) :=
arb (.val (t 0) h) call fun v_38 h39 =>
arb (.val (t 0) h39) call fun v_40 h41 =>
arb (nckR v_40 h41) call fun v_42 h43 =>
arb (.of (fadR 2 v_42) h43) call fun v_44 h45 =>
arb (.of (ld1 h45 v_44) h45) call fun v_46 h47 =>
arb (.val (t 6) h47) call fun v_48 h49 =>
arb (.of (aBin P .add 3 (.const (.int .i64 100)) (.tmp 42) (.int .i64 100) v_48) h49) call fun v_50 h51 =>
arb (bslR 1 [(.int .i64 0)] 1 h51 [(0, 1, v_50)]) call fun v_52 h53 =>
arb (appR 1 8 h53 v_46 v_52) call fun v_54 h55 =>
arb (nckR v_38 h55) call fun v_56 h57 =>
arb (.of (fadR 2 v_56) h57) call fun v_58 h59 =>
arb (stR 1 h59 v_58 v_54) call fun v_60 h61 =>
k .normal (upd (upd (upd (upd (upd (upd (upd (upd (upd (upd (upd t 37 v_38) 38 v_40) 39 v_42) 40 v_44) 41 v_46) 42 v_48) 43 v_50) 44 v_52) 45 v_54) 46 v_56) 47 v_58) h61

def J_precentorlaw1_player_want_6 (P : Program) (call : FuncId → List AVal → Heap → Res AVal) (fuel : Nat) (k : Kn (Ex × T)) (t : T) (h : Heap) : Res (Ex × T) :=
arb (.val (t 0) h) call fun v_91 h92 =>
arb (.val (t 0) h92) call fun v_93 h94 =>
arb (nckR v_93 h94) call fun v_95 h96 =>
arb (.of (fadR 2 v_95) h96) call fun v_97 h98 =>
arb (.of (ld1 h98 v_97) h98) call fun v_99 h100 =>
arb (.val (t 7) h100) call fun v_101 h102 =>
arb (.of (aBin P .mul 3 (.const (.int .i64 10)) (.tmp 72) (.int .i64 10) v_101) h102) call fun v_103 h104 =>
arb (.of (aBin P .add 3 (.const (.int .i64 200)) (.tmp 73) (.int .i64 200) v_103) h104) call fun v_105 h106 =>
arb (.val (t 8) h106) call fun v_107 h108 =>
arb (.of (aBin P .add 3 (.tmp 74) (.tmp 75) v_105 v_107) h108) call fun v_109 h110 =>
arb (bslR 1 [(.int .i64 0)] 1 h110 [(0, 1, v_109)]) call fun v_111 h112 =>
arb (appR 1 8 h112 v_99 v_111) call fun v_113 h114 =>
arb (nckR v_91 h114) call fun v_115 h116 =>
arb (.of (fadR 2 v_115) h116) call fun v_117 h118 =>
arb (stR 1 h118 v_117 v_113) call fun v_119 h120 =>
k .normal (upd (upd (upd (upd (upd (upd (upd (upd (upd (upd (upd (upd (upd (upd t 67 v_91) 68 v_93) 69 v_95) 70 v_97) 71 v_99) 72 v_101) 73 v_103) 74 v_105) 75 v_107) 76 v_109) 77 v_111) 78 v_113) 79 v_115) 80 v_117) h120

def J_precentorlaw1_player_want_5 (P : Program) (call : FuncId → List AVal → Heap → Res AVal) (fuel : Nat) (k : Kn (Ex × T)) (t : T) (h : Heap) : Res (Ex × T) :=
lt (sqK (J_precentorlaw1_player_want_6 P call fuel k) k) fun k121 =>
arb (.val (t 8) h) call fun v_122 h123 =>
arb (.of (aBin P .geq 3 (.tmp 64) (.const (.int .i64 50)) v_122 (.int .i64 50)) h123) call fun v_124 h125 =>
cb v_124 (
arb (.val (t 8) h125) call fun v_126 h127 =>
arb (.val v_126 h127) call fun v_128 h129 =>
k121 .ret (upd (upd (upd (upd t 64 v_122) 65 v_124) 66 v_126) 4 v_128) h129) (
k121 .normal (upd (upd t 64 v_122) 65 v_124) h125)

def J_precentorlaw1_player_want_4 (P : Program) (call : FuncId → List AVal → Heap → Res AVal) (fuel : Nat) (k : Kn (Ex × T)) (t : T) (h : Heap) : Res (Ex × T) :=
lt (sqK (J_precentorlaw1_player_want_5 P call fuel k) k) fun k130 =>
arb (.val (t 8) h) call fun v_131 h132 =>
arb (.of (aBin P .eql 3 (.tmp 62) (.const (.int .i64 0)) v_131 (.int .i64 0)) h132) call fun v_133 h134 =>
cb v_133 (
arb (.val (.int .i64 2) h134) call fun n_135 h136 =>
k130 .normal (upd (upd (upd t 62 v_131) 63 v_133) 7 n_135) h136) (
k130 .normal (upd (upd t 62 v_131) 63 v_133) h134)

def J_precentorlaw1_player_want_2 (P : Program) (call : FuncId → List AVal → Heap → Res AVal) (fuel : Nat) (k : Kn (Ex × T)) (t : T) (h : Heap) : Res (Ex × T) :=
lt (blkK 1 k) fun k6 =>
arb (.val (t 0) h) call fun v_7 h8 =>
arb (.call F_precentorlaw1_player_step [v_7] h8) call fun v_9 h10 =>
arb (newR [(.int .i64 0), (.int .i64 0)] h10) call fun x_11 h12 =>
arb (stR 2 h12 x_11 v_9) call fun v_13 h14 =>
arb (.of (fadR 0 x_11) h14) call fun v_15 h16 =>
arb (.of (ld1 h16 v_15) h16) call fun v_17 h18 =>
lt (blkK 2 k6) fun k19 =>
arb (.of (aBin P .eql 3 (.tmp 14) (.const (.int .i64 3)) v_17 (.int .i64 3)) h18) call fun v_20 h21 =>
arb (.val v_20 h21) call fun v_22 h23 =>
cb v_22 (
arb (.val (t 1) h23) call fun v_24 h25 =>
arb (.of (aBin P .lss 3 (.tmp 28) (.const (.int .i64 5)) v_24 (.int .i64 5)) h25) call fun v_26 h27 =>
cb v_26 (
arb (.val (t 0) h27) call fun v_28 h29 =>
arb (.val (t 1) h29) call fun v_30 h31 =>
arb (.of (aBin P .add 3 (.tmp 31) (.const (.int .i64 1)) v_30 (.int .i64 1)) h31) call fun v_32 h33 =>
arb (.call F_precentorlaw1_player_want [v_28, v_32] h33) call fun v_34 h35 =>
arb (.val v_34 h35) call fun e_36 h37 =>
lt (sqK (J_precentorlaw1_player_want_3 P call fuel k19) k19) fun k62 =>
arb (.val e_36 h37) call fun v_63 h64 =>
arb (.of (aBin P .geq 3 (.tmp 34) (.const (.int .i64 50)) v_63 (.int .i64 50)) h64) call fun v_65 h66 =>
cb v_65 (
arb (.val e_36 h66) call fun v_67 h68 =>
arb (.val v_67 h68) call fun v_69 h70 =>
k62 .ret (upd (upd (upd (upd (upd (upd (upd (upd (upd (upd (upd (upd (upd (upd (upd (upd (upd (upd t 11 v_7) 12 v_9) 5 x_11) 13 v_15) 14 v_17) 27 v_20) 26 v_22) 28 v_24) 29 v_26) 30 v_28) 31 v_30) 32 v_32) 33 v_34) 6 e_36) 34 v_63) 35 v_65) 36 v_67) 4 v_69) h70) (
k62 .normal (upd (upd (upd (upd (upd (upd (upd (upd (upd (upd (upd (upd (upd (upd (upd (upd t 11 v_7) 12 v_9) 5 x_11) 13 v_15) 14 v_17) 27 v_20) 26 v_22) 28 v_24) 29 v_26) 30 v_28) 31 v_30) 32 v_32) 33 v_34) 6 e_36) 34 v_63) 35 v_65) h66)) (
k19 .normal (upd (upd (upd (upd (upd (upd (upd (upd (upd t 11 v_7) 12 v_9) 5 x_11) 13 v_15) 14 v_17) 27 v_20) 26 v_22) 28 v_24) 29 v_26) h27)) (
arb (.of (aBin P .eql 3 (.tmp 14) (.const (.int .i64 4)) v_17 (.int .i64 4)) h23) call fun v_71 h72 =>
arb (.val v_71 h72) call fun v_73 h74 =>
cb v_73 (
arb (.val (t 1) h74) call fun v_75 h76 =>
arb (.of (aBin P .lss 3 (.tmp 50) (.const (.int .i64 5)) v_75 (.int .i64 5)) h76) call fun v_77 h78 =>
cb v_77 (
arb (.val (.int .i64 0) h78) call fun n_79 h80 =>
arb (.val (t 0) h80) call fun v_81 h82 =>
arb (.val (t 1) h82) call fun v_83 h84 =>
arb (.of (aBin P .add 3 (.tmp 53) (.const (.int .i64 1)) v_83 (.int .i64 1)) h84) call fun v_85 h86 =>
arb (.call F_precentorlaw1_player_want [v_81, v_85] h86) call fun v_87 h88 =>
arb (.val v_87 h88) call fun e_89 h90 =>
lt (sqK (J_precentorlaw1_player_want_4 P call fuel k19) k19) fun k137 =>
arb (.val e_89 h90) call fun v_138 h139 =>
arb (.of (aBin P .eql 3 (.tmp 56) (.const (.int .i64 0)) v_138 (.int .i64 0)) h139) call fun v_140 h141 =>
cb v_140 (
arb (.val (.int .i64 1) h141) call fun n_142 h143 =>
arb (.val (t 0) h143) call fun v_144 h145 =>
arb (.val (t 1) h145) call fun v_146 h147 =>
arb (.of (aBin P .add 3 (.tmp 59) (.const (.int .i64 1)) v_146 (.int .i64 1)) h147) call fun v_148 h149 =>
arb (.call F_precentorlaw1_player_want [v_144, v_148] h149) call fun v_150 h151 =>
arb (.val v_150 h151) call fun e_152 h153 =>
k137 .normal (upd (upd (upd (upd (upd (upd (upd (upd (upd (upd (upd (upd (upd (upd (upd (upd (upd (upd (upd (upd (upd (upd (upd (upd (upd t 11 v_7) 12 v_9) 5 x_11) 13 v_15) 14 v_17) 27 v_20) 26 v_22) 49 v_71) 48 v_73) 50 v_75) 51 v_77) 7 n_79) 52 v_81) 53 v_83) 54 v_85) 55 v_87) 8 e_89) 56 v_138) 57 v_140) 7 n_142) 58 v_144) 59 v_146) 60 v_148) 61 v_150) 8 e_152) h153) (
k137 .normal (upd (upd (upd (upd (upd (upd (upd (upd (upd (upd (upd (upd (upd (upd (upd (upd (upd (upd (upd t 11 v_7) 12 v_9) 5 x_11) 13 v_15) 14 v_17) 27 v_20) 26 v_22) 49 v_71) 48 v_73) 50 v_75) 51 v_77) 7 n_79) 52 v_81) 53 v_83) 54 v_85) 55 v_87) 8 e_89) 56 v_138) 57 v_140) h141)) (
k19 .normal (upd (upd (upd (upd (upd (upd (upd (upd (upd (upd (upd t 11 v_7) 12 v_9) 5 x_11) 13 v_15) 14 v_17) 27 v_20) 26 v_22) 49 v_71) 48 v_73) 50 v_75) 51 v_77) h78)) (
arb (.of (aBin P .eql 3 (.tmp 14) (.const (.int .i64 5)) v_17 (.int .i64 5)) h74) call fun v_154 h155 =>
arb (.val v_154 h155) call fun v_156 h157 =>
cb v_156 (
arb (.val (.int .i64 0) h157) call fun v_158 h159 =>
k19 .ret (upd (upd (upd (upd (upd (upd (upd (upd (upd (upd (upd (upd t 11 v_7) 12 v_9) 5 x_11) 13 v_15) 14 v_17) 27 v_20) 26 v_22) 49 v_71) 48 v_73) 82 v_154) 81 v_156) 4 v_158) h159) (
arb (.of (aBin P .eql 3 (.tmp 14) (.const (.int .i64 6)) v_17 (.int .i64 6)) h157) call fun v_160 h161 =>
arb (.val v_160 h161) call fun v_162 h163 =>
cb v_162 (
arb (.of (fadR 1 x_11) h163) call fun v_164 h165 =>
arb (.of (ld1 h165 v_164) h165) call fun v_166 h167 =>
arb (.of (aBin P .gtr 3 (.tmp 86) (.const (.int .i64 0)) v_166 (.int .i64 0)) h167) call fun v_168 h169 =>
cb v_168 (
arb (.of (fadR 1 x_11) h169) call fun v_170 h171 =>
arb (.of (ld1 h171 v_170) h171) call fun v_172 h173 =>
arb (.val v_172 h173) call fun v_174 h175 =>
k19 .ret (upd (upd (upd (upd (upd (upd (upd (upd (upd (upd (upd (upd (upd (upd (upd (upd (upd (upd (upd t 11 v_7) 12 v_9) 5 x_11) 13 v_15) 14 v_17) 27 v_20) 26 v_22) 49 v_71) 48 v_73) 82 v_154) 81 v_156) 84 v_160) 83 v_162) 85 v_164) 86 v_166) 87 v_168) 88 v_170) 89 v_172) 4 v_174) h175) (
k19 .normal (upd (upd (upd (upd (upd (upd (upd (upd (upd (upd (upd (upd (upd (upd (upd (upd t 11 v_7) 12 v_9) 5 x_11) 13 v_15) 14 v_17) 27 v_20) 26 v_22) 49 v_71) 48 v_73) 82 v_154) 81 v_156) 84 v_160) 83 v_162) 85 v_164) 86 v_166) 87 v_168) h169)) (
arb (.of (aBin P .eql 3 (.tmp 14) (.const (.int .i64 7)) v_17 (.int .i64 7)) h163) call fun v_176 h177 =>
arb (.val v_176 h177) call fun v_178 h179 =>
cb v_178 (
arb (.of (fadR 1 x_11) h179) call fun v_180 h181 =>
arb (.of (ld1 h181 v_180) h181) call fun v_182 h183 =>
arb (.of (aBin P .rem 3 (.tmp 93) (.const (.int .i64 2)) v_182 (.int .i64 2)) h183) call fun v_184 h185 =>
arb (.of (aBin P .eql 3 (.tmp 94) (.const (.int .i64 1)) v_184 (.int .i64 1)) h185) call fun v_186 h187 =>
cb v_186 (
arb (.of (fadR 1 x_11) h187) call fun v_188 h189 =>
arb (.of (ld1 h189 v_188) h189) call fun v_190 h191 =>
arb (.val v_190 h191) call fun v_192 h193 =>
k19 .ret (upd (upd (upd (upd (upd (upd (upd (upd (upd (upd (upd (upd (upd (upd (upd (upd (upd (upd (upd (upd (upd (upd t 11 v_7) 12 v_9) 5 x_11) 13 v_15) 14 v_17) 27 v_20) 26 v_22) 49 v_71) 48 v_73) 82 v_154) 81 v_156) 84 v_160) 83 v_162) 91 v_176) 90 v_178) 92 v_180) 93 v_182) 94 v_184) 95 v_186) 96 v_188) 97 v_190) 4 v_192) h193) (
k19 .normal (upd (upd (upd (upd (upd (upd (upd (upd (upd (upd (upd (upd (upd (upd (upd (upd (upd (upd (upd t 11 v_7) 12 v_9) 5 x_11) 13 v_15) 14 v_17) 27 v_20) 26 v_22) 49 v_71) 48 v_73) 82 v_154) 81 v_156) 84 v_160) 83 v_162) 91 v_176) 90 v_178) 92 v_180) 93 v_182) 94 v_184) 95 v_186) h187)) (
arb (.of (aBin P .eql 3 (.tmp 14) (.const (.int .i64 8)) v_17 (.int .i64 8)) h179) call fun v_194 h195 =>
arb (.val v_194 h195) call fun v_196 h197 =>
cb v_196 (
arb (.of (fadR 1 x_11) h197) call fun v_198 h199 =>
arb (.of (ld1 h199 v_198) h199) call fun v_200 h201 =>
arb (.of (aBin P .add 3 (.const (.int .i64 50)) (.tmp 101) (.int .i64 50) v_200) h201) call fun v_202 h203 =>
arb (.val v_202 h203) call fun v_204 h205 =>
k19 .ret (upd (upd (upd (upd (upd (upd (upd (upd (upd (upd (upd (upd (upd (upd (upd (upd (upd (upd (upd (upd (upd t 11 v_7) 12 v_9) 5 x_11) 13 v_15) 14 v_17) 27 v_20) 26 v_22) 49 v_71) 48 v_73) 82 v_154) 81 v_156) 84 v_160) 83 v_162) 91 v_176) 90 v_178) 99 v_194) 98 v_196) 100 v_198) 101 v_200) 102 v_202) 4 v_204) h205) (
obv (.val (t 0) h197) fun v_206 =>
obv (.val (t 0) h197) fun v_208 =>
obv (nckR v_208 h197) fun v_210 =>
obv (.of (fadR 2 v_210) h197) fun v_212 =>
obv (.of (ld1 h197 v_212) h197) fun v_214 => ifb true <|
obv (.of (fadR 1 x_11) h197) fun v_216 =>
obv (.of (ld1 h197 v_216) h197) fun v_218 => ifb true <|
arbV (bslR 1 [(.int .i64 0)] 1 h197 [(0, 1, v_218)]) fun v_220 h221 =>
arbE (appR 1 8 h221 v_214 v_220) call fun v_222 h223 => lt h223 fun g223 => ifb (true && true) <|
obv (nckR v_206 g223) fun v_224 =>
obv (.of (fadR 2 v_224) g223) fun v_226 =>
arbE (stR 1 g223 v_226 v_222) call fun v_228 h229 => lt h229 fun g229 => ifb (true && true) <|
k19 .normal (upd (upd (upd (upd (upd (upd (upd (upd (upd (upd (upd (upd (upd (upd (upd (upd (upd (upd (upd (upd (upd (upd (upd (upd (upd (upd (upd (upd t 11 v_7) 12 v_9) 5 x_11) 13 v_15) 14 v_17) 27 v_20) 26 v_22) 49 v_71) 48 v_73) 82 v_154) 81 v_156) 84 v_160) 83 v_162) 91 v_176) 90 v_178) 99 v_194) 98 v_196) 15 v_206) 16 v_208) 17 v_210) 18 v_212) 19 v_214) 20 v_216) 21 v_218) 22 v_220) 23 v_222) 24 v_224) 25 v_226) g229))))))

def L_precentorlaw1_player_want_1 (P : Program) (call : FuncId → List AVal → Heap → Res AVal) (fuel : Nat) (t : T) (h : Heap) : Res (Ex × T) :=
lt okK fun k =>
lt (sqK (J_precentorlaw1_player_want_2 P call fuel k) k) fun k230 =>
arb (.val (t 0) h) call fun v_231 h232 =>
arb (.call F_precentorlaw1_player_more [v_231] h232) call fun v_233 h234 =>
cb v_233 (
k230 .normal (upd (upd t 9 v_231) 10 v_233) h234) (
k230 (.exit 0) (upd (upd t 9 v_231) 10 v_233) h234)

def S_precentorlaw1_player_want (P : Program) (call : FuncId → List AVal → Heap → Res AVal) (fuel : Nat) (p_a0 deep_a1 : AVal) (h : Heap) : Res AVal :=
lt (retK P [.tmp 4]) fun k =>
arb (.val (.int .i64 0) h) call fun v_0 h1 =>
lt (sqK (J_precentorlaw1_player_want_0 P call fuel k) k) fun k4 =>
lt (blkK 0 k4) fun k5 =>
(loopN (L_precentorlaw1_player_want_1 P call fuel) fuel (upd (enterT [p_a0, deep_a1]) 4 v_0) h1).bind (lpK k5)
theorem E_precentorlaw1_player_want (call : FuncId → List AVal → Heap → Res AVal) (fuel : Nat) (p_a0 deep_a1 : AVal) (h : Heap) : bodyR Try.prog call fuel Try.f22 [p_a0, deep_a1] h = S_precentorlaw1_player_want Try.prog call fuel p_a0 deep_a1 h := by kernel_rfl
theorem R_precentorlaw1_player_want {X : XTab} (p_a0 deep_a1 : AVal) {h : Heap} {Q : AVal → Heap → Prop} (hx : X F_precentorlaw1_player_want [p_a0, deep_a1] = none) (q : Tells (fun m => S_precentorlaw1_player_want Try.prog (acallX Try.prog X m) m p_a0 deep_a1 h) Q) :
    Tells (fun m => acallX Try.prog X m F_precentorlaw1_player_want [p_a0, deep_a1] h) Q :=
  Tells.later (q.le fun m => (E_precentorlaw1_player_want (acallX Try.prog X m) m p_a0 deep_a1 h) ▸ acallX_le Try.func22 hx m h)
theorem RV_precentorlaw1_player_want {X : XTab} {V : AVal → Heap → Prop} (p_a0 deep_a1 : AVal) {h : Heap} {Q : AVal → Heap → Prop} (hx : X F_precentorlaw1_player_want [p_a0, deep_a1] = none) (q : TellsV V (fun m => S_precentorlaw1_player_want Try.prog (acallX Try.prog X m) m p_a0 deep_a1 h) Q) :
    TellsV V (fun m => acallX Try.prog X m F_precentorlaw1_player_want [p_a0, deep_a1] h) Q :=
  TV.later (TV.le q fun m => (E_precentorlaw1_player_want (acallX Try.prog X m) m p_a0 deep_a1 h) ▸ acallX_le Try.func22 hx m h)

/-! ### precentor/precentorlaw1.known -/

def S_precentorlaw1_known (P : Program) (call : FuncId → List AVal → Heap → Res AVal) (fuel : Nat) (h : Heap) : Res AVal :=
lt (retK P [.tmp 0]) fun k =>
arb (.val (.bool false) h) call fun v_0 h1 =>
arb (.call F_precentorlaw1_TrapKnown [] h1) call fun v_2 h3 =>
arb (.val v_2 h3) call fun v_4 h5 =>
k .ret (upd (upd (upd (enterT []) 0 v_0) 1 v_2) 0 v_4) h5
theorem E_precentorlaw1_known (call : FuncId → List AVal → Heap → Res AVal) (fuel : Nat) (h : Heap) : bodyR Try.prog call fuel Try.f23 [] h = S_precentorlaw1_known Try.prog call fuel  h := by kernel_rfl
theorem R_precentorlaw1_known {X : XTab} {h : Heap} {Q : AVal → Heap → Prop} (hx : X F_precentorlaw1_known [] = none) (q : Tells (fun m => S_precentorlaw1_known Try.prog (acallX Try.prog X m) m  h) Q) :
    Tells (fun m => acallX Try.prog X m F_precentorlaw1_known [] h) Q :=
  Tells.later (q.le fun m => (E_precentorlaw1_known (acallX Try.prog X m) m  h) ▸ acallX_le Try.func23 hx m h)
theorem RV_precentorlaw1_known {X : XTab} {V : AVal → Heap → Prop} {h : Heap} {Q : AVal → Heap → Prop} (hx : X F_precentorlaw1_known [] = none) (q : TellsV V (fun m => S_precentorlaw1_known Try.prog (acallX Try.prog X m) m  h) Q) :
    TellsV V (fun m => acallX Try.prog X m F_precentorlaw1_known [] h) Q :=
  TV.later (TV.le q fun m => (E_precentorlaw1_known (acallX Try.prog X m) m  h) ▸ acallX_le Try.func23 hx m h)

/-! ### precentor/precentorlaw1.TrapPasses$1$1 -/

def S_precentorlaw1_TrapPasses_1_1 (P : Program) (call : FuncId → List AVal → Heap → Res AVal) (fuel : Nat) (a0 a1 : AVal) (h : Heap) : Res AVal :=
lt (retK P []) fun k =>
arb (.of (ld1 h a0) h) call fun v_0 h1 =>
arb (.of (ld1 h1 a1) h1) call fun v_2 h3 =>
arb (bslR 1 [(.int .i64 0)] 1 h3 [(0, 1, v_2)]) call fun v_4 h5 =>
arb (appR 1 8 h5 v_0 v_4) call fun v_6 h7 =>
arb (stR 1 h7 a0 v_6) call fun v_8 h9 =>
k .normal (upd (upd (upd (upd (enterT [a0, a1]) 2 v_0) 3 v_2) 4 v_4) 5 v_6) h9
theorem E_precentorlaw1_TrapPasses_1_1 (call : FuncId → List AVal → Heap → Res AVal) (fuel : Nat) (a0 a1 : AVal) (h : Heap) : bodyR Try.prog call fuel Try.f26 [a0, a1] h = S_precentorlaw1_TrapPasses_1_1 Try.prog call fuel a0 a1 h := by kernel_rfl
theorem R_precentorlaw1_TrapPasses_1_1 {X : XTab} (a0 a1 : AVal) {h : Heap} {Q : AVal → Heap → Prop} (hx : X F_precentorlaw1_TrapPasses_1_1 [a0, a1] = none) (q : Tells (fun m => S_precentorlaw1_TrapPasses_1_1 Try.prog (acallX Try.prog X m) m a0 a1 h) Q) :
    Tells (fun m => acallX Try.prog X m F_precentorlaw1_TrapPasses_1_1 [a0, a1] h) Q :=
  Tells.later (q.le fun m => (E_precentorlaw1_TrapPasses_1_1 (acallX Try.prog X m) m a0 a1 h) ▸ acallX_le Try.func26 hx m h)
theorem RV_precentorlaw1_TrapPasses_1_1 {X : XTab} {V : AVal → Heap → Prop} (a0 a1 : AVal) {h : Heap} {Q : AVal → Heap → Prop} (hx : X F_precentorlaw1_TrapPasses_1_1 [a0, a1] = none) (q : TellsV V (fun m => S_precentorlaw1_TrapPasses_1_1 Try.prog (acallX Try.prog X m) m a0 a1 h) Q) :
    TellsV V (fun m => acallX Try.prog X m F_precentorlaw1_TrapPasses_1_1 [a0, a1] h) Q :=
  TV.later (TV.le q fun m => (E_precentorlaw1_TrapPasses_1_1 (acallX Try.prog X m) m a0 a1 h) ▸ acallX_le Try.func26 hx m h)

/-! ### precentor/precentorlaw1.TrapPasses$1$2 -/

def S_precentorlaw1_TrapPasses_1_2 (P : Program) (call : FuncId → List AVal → Heap → Res AVal) (fuel : Nat) (a0 a1 : AVal) (h : Heap) : Res AVal :=
lt (retK P []) fun k =>
arb (.of (ld1 h a0) h) call fun v_0 h1 =>
arb (.of (ld1 h1 a1) h1) call fun v_2 h3 =>
arb (.of (aBin P .add 3 (.tmp 3) (.const (.int .i64 1)) v_2 (.int .i64 1)) h3) call fun v_4 h5 =>
arb (clvR P v_0 [v_4] h5) call fun v_6 h7 =>
k .normal (upd (upd (upd (upd (enterT [a0, a1]) 2 v_0) 3 v_2) 4 v_4) 5 v_6) h7
theorem E_precentorlaw1_TrapPasses_1_2 (call : FuncId → List AVal → Heap → Res AVal) (fuel : Nat) (a0 a1 : AVal) (h : Heap) : bodyR Try.prog call fuel Try.f27 [a0, a1] h = S_precentorlaw1_TrapPasses_1_2 Try.prog call fuel a0 a1 h := by kernel_rfl
theorem R_precentorlaw1_TrapPasses_1_2 {X : XTab} (a0 a1 : AVal) {h : Heap} {Q : AVal → Heap → Prop} (hx : X F_precentorlaw1_TrapPasses_1_2 [a0, a1] = none) (q : Tells (fun m => S_precentorlaw1_TrapPasses_1_2 Try.prog (acallX Try.prog X m) m a0 a1 h) Q) :
    Tells (fun m => acallX Try.prog X m F_precentorlaw1_TrapPasses_1_2 [a0, a1] h) Q :=
  Tells.later (q.le fun m => (E_precentorlaw1_TrapPasses_1_2 (acallX Try.prog X m) m a0 a1 h) ▸ acallX_le Try.func27 hx m h)
theorem RV_precentorlaw1_TrapPasses_1_2 {X : XTab} {V : AVal → Heap → Prop} (a0 a1 : AVal) {h : Heap} {Q : AVal → Heap → Prop} (hx : X F_precentorlaw1_TrapPasses_1_2 [a0, a1] = none) (q : TellsV V (fun m => S_precentorlaw1_TrapPasses_1_2 Try.prog (acallX Try.prog X m) m a0 a1 h) Q) :
    TellsV V (fun m => acallX Try.prog X m F_precentorlaw1_TrapPasses_1_2 [a0, a1] h) Q :=
  TV.later (TV.le q fun m => (E_precentorlaw1_TrapPasses_1_2 (acallX Try.prog X m) m a0 a1 h) ▸ acallX_le Try.func27 hx m h)

/-! ### precentor/precentorlaw1.TrapPasses$2$2 -/

def S_precentorlaw1_TrapPasses_2_2 (P : Program) (call : FuncId → List AVal → Heap → Res AVal) (fuel : Nat) (a0 : AVal) (h : Heap) : Res AVal :=
lt (retK P []) fun k =>
arb (.of (ld1 h a0) h) call fun v_0 h1 =>
arb (clvR P v_0 [(.int .i64 0)] h1) call fun v_2 h3 =>
k .normal (upd (upd (enterT [a0]) 1 v_0) 2 v_2) h3
theorem E_precentorlaw1_TrapPasses_2_2 (call : FuncId → List AVal → Heap → Res AVal) (fuel : Nat) (a0 : AVal) (h : Heap) : bodyR Try.prog call fuel Try.f30 [a0] h = S_precentorlaw1_TrapPasses_2_2 Try.prog call fuel a0 h := by kernel_rfl
theorem R_precentorlaw1_TrapPasses_2_2 {X : XTab} (a0 : AVal) {h : Heap} {Q : AVal → Heap → Prop} (hx : X F_precentorlaw1_TrapPasses_2_2 [a0] = none) (q : Tells (fun m => S_precentorlaw1_TrapPasses_2_2 Try.prog (acallX Try.prog X m) m a0 h) Q) :
    Tells (fun m => acallX Try.prog X m F_precentorlaw1_TrapPasses_2_2 [a0] h) Q :=
  Tells.later (q.le fun m => (E_precentorlaw1_TrapPasses_2_2 (acallX Try.prog X m) m a0 h) ▸ acallX_le Try.func30 hx m h)
theorem RV_precentorlaw1_TrapPasses_2_2 {X : XTab} {V : AVal → Heap → Prop} (a0 : AVal) {h : Heap} {Q : AVal → Heap → Prop} (hx : X F_precentorlaw1_TrapPasses_2_2 [a0] = none) (q : TellsV V (fun m => S_precentorlaw1_TrapPasses_2_2 Try.prog (acallX Try.prog X m) m a0 h) Q) :
    TellsV V (fun m => acallX Try.prog X m F_precentorlaw1_TrapPasses_2_2 [a0] h) Q :=
  TV.later (TV.le q fun m => (E_precentorlaw1_TrapPasses_2_2 (acallX Try.prog X m) m a0 h) ▸ acallX_le Try.func30 hx m h)

/-! ### precentor/precentorlaw1.TrapCounts$1 -/

def S_precentorlaw1_TrapCounts_1 (P : Program) (call : FuncId → List AVal → Heap → Res AVal) (fuel : Nat) (a0 a1 : AVal) (h : Heap) : Res AVal :=
lt (retK P []) fun k =>
arb (.of (ld1 h a0) h) call fun v_0 h1 =>
arb (.of (aBin P .add 3 (.tmp 2) (.const (.int .i64 1)) v_0 (.int .i64 1)) h1) call fun v_2 h3 =>
arb (stR 1 h3 a0 v_2) call fun v_4 h5 =>
arb (.of (ld1 h5 a1) h5) call fun v_6 h7 =>
arb (.of (aPureB P (Builtin.max_ #[3, 3] 3) [(.int .i64 0), v_6]) h7) call fun v_8 h9 =>
arb (.call F_trap_Stop [v_8] h9) call fun v_10 h11 =>
k .normal (upd (upd (upd (upd (upd (enterT [a0, a1]) 2 v_0) 3 v_2) 4 v_6) 5 v_8) 6 v_10) h11
theorem E_precentorlaw1_TrapCounts_1 (call : FuncId → List AVal → Heap → Res AVal) (fuel : Nat) (a0 a1 : AVal) (h : Heap) : bodyR Try.prog call fuel Try.f31 [a0, a1] h = S_precentorlaw1_TrapCounts_1 Try.prog call fuel a0 a1 h := by kernel_rfl
theorem R_precentorlaw1_TrapCounts_1 {X : XTab} (a0 a1 : AVal) {h : Heap} {Q : AVal → Heap → Prop} (hx : X F_precentorlaw1_TrapCounts_1 [a0, a1] = none) (q : Tells (fun m => S_precentorlaw1_TrapCounts_1 Try.prog (acallX Try.prog X m) m a0 a1 h) Q) :
    Tells (fun m => acallX Try.prog X m F_precentorlaw1_TrapCounts_1 [a0, a1] h) Q :=
  Tells.later (q.le fun m => (E_precentorlaw1_TrapCounts_1 (acallX Try.prog X m) m a0 a1 h) ▸ acallX_le Try.func31 hx m h)
theorem RV_precentorlaw1_TrapCounts_1 {X : XTab} {V : AVal → Heap → Prop} (a0 a1 : AVal) {h : Heap} {Q : AVal → Heap → Prop} (hx : X F_precentorlaw1_TrapCounts_1 [a0, a1] = none) (q : TellsV V (fun m => S_precentorlaw1_TrapCounts_1 Try.prog (acallX Try.prog X m) m a0 a1 h) Q) :
    TellsV V (fun m => acallX Try.prog X m F_precentorlaw1_TrapCounts_1 [a0, a1] h) Q :=
  TV.later (TV.le q fun m => (E_precentorlaw1_TrapCounts_1 (acallX Try.prog X m) m a0 a1 h) ▸ acallX_le Try.func31 hx m h)

/-! ### (*precentor/precentorlaw1.player).more -/

def S_precentorlaw1_player_more (P : Program) (call : FuncId → List AVal → Heap → Res AVal) (fuel : Nat) (p_a0 : AVal) (h : Heap) : Res AVal :=
lt (retK P [.tmp 2]) fun k =>
arb (.val (.bool false) h) call fun v_0 h1 =>
obv (.val p_a0 h1) fun v_2 =>
obv (nckR v_2 h1) fun v_3 =>
obv (.of (fadR 1 v_3) h1) fun v_4 =>
obv (.of (ld1 h1 v_4) h1) fun v_5 =>
obv (.val p_a0 h1) fun v_6 =>
obv (nckR v_6 h1) fun v_7 =>
obv (.of (fadR 0 v_7) h1) fun v_8 =>
obv (.of (ld1 h1 v_8) h1) fun v_9 =>
obv (.of (lenL v_9) h1) fun v_10 =>
obv (.of (aBin P .lss 3 (.tmp 6) (.tmp 11) v_5 v_10) h1) fun v_11 =>
obv (.val v_11 h1) fun v_12 =>
gd (wantB v_12 true) (fun c => obv (.val p_a0 h1) fun v => c v h1) h1 fun v_13 h14 =>
gd (wantB v_12 true) (fun c => obv (nckR v_13 h14) fun v => c v h14) h14 fun v_15 h16 =>
gd (wantB v_12 true) (fun c => obv (.of (fadR 1 v_15) h16) fun v => c v h16) h16 fun v_17 h18 =>
gd (wantB v_12 true) (fun c => obv (.of (ld1 h18 v_17) h18) fun v => c v h18) h18 fun v_19 h20 =>
gd (wantB v_12 true) (fun c => obv (.of (aBin P .lss 3 (.tmp 17) (.const (.int .i64 50)) v_19 (.int .i64 50)) h20) fun v => c v h20) h20 fun v_21 h22 =>
obv (pkR v_12 v_21 (.bool false) h22) fun v_23 =>
obv (.val v_23 h22) fun v_24 =>
k .ret (upd (upd (upd (upd (upd (upd (upd (upd (upd (upd (upd (upd (upd (upd (upd (upd (upd (upd (upd (enterT [p_a0]) 2 v_0) 3 v_2) 4 v_3) 5 v_4) 6 v_5) 7 v_6) 8 v_7) 9 v_8) 10 v_9) 11 v_10) 12 v_11) 13 v_12) 14 v_13) 15 v_15) 16 v_17) 17 v_19) 18 v_21) 19 v_23) 2 v_24) h22
theorem E_precentorlaw1_player_more (call : FuncId → List AVal → Heap → Res AVal) (fuel : Nat) (p_a0 : AVal) (h : Heap) : bodyR Try.prog call fuel Try.f34 [p_a0] h = S_precentorlaw1_player_more Try.prog call fuel p_a0 h := by kernel_rfl
theorem R_precentorlaw1_player_more {X : XTab} (p_a0 : AVal) {h : Heap} {Q : AVal → Heap → Prop} (hx : X F_precentorlaw1_player_more [p_a0] = none) (q : Tells (fun m => S_precentorlaw1_player_more Try.prog (acallX Try.prog X m) m p_a0 h) Q) :
    Tells (fun m => acallX Try.prog X m F_precentorlaw1_player_more [p_a0] h) Q :=
  Tells.later (q.le fun m => (E_precentorlaw1_player_more (acallX Try.prog X m) m p_a0 h) ▸ acallX_le Try.func34 hx m h)
theorem RV_precentorlaw1_player_more {X : XTab} {V : AVal → Heap → Prop} (p_a0 : AVal) {h : Heap} {Q : AVal → Heap → Prop} (hx : X F_precentorlaw1_player_more [p_a0] = none) (q : TellsV V (fun m => S_precentorlaw1_player_more Try.prog (acallX Try.prog X m) m p_a0 h) Q) :
    TellsV V (fun m => acallX Try.prog X m F_precentorlaw1_player_more [p_a0] h) Q :=
  TV.later (TV.le q fun m => (E_precentorlaw1_player_more (acallX Try.prog X m) m p_a0 h) ▸ acallX_le Try.func34 hx m h)

/-! ### (*precentor/precentorlaw1.player).step -/

theorem C_precentorlaw1_player_step_0 (h : Heap) (a : AVal) : aLoad Try.prog h 45 a = ldn 2 h a := by kernel_rfl
def S_precentorlaw1_player_step (P : Program) (call : FuncId → List AVal → Heap → Res AVal) (fuel : Nat) (p_a0 : AVal) (h : Heap) : Res AVal :=
lt (retK P [.cell 2 45]) fun k =>
arb (newR [(.int .i64 0), (.int .i64 0)] h) call fun v_0 h1 =>
obv (.val p_a0 h1) fun v_2 =>
obv (nckR v_2 h1) fun v_4 =>
obv (.of (fadR 0 v_4) h1) fun v_6 =>
obv (.of (ld1 h1 v_6) h1) fun v_8 => ifb true <|
obv (.val p_a0 h1) fun v_10 =>
obv (nckR v_10 h1) fun v_12 =>
obv (.of (fadR 1 v_12) h1) fun v_14 =>
obv (.of (ld1 h1 v_14) h1) fun v_16 => ifb true <|
obv (.of (ixsR 2 v_8 v_16) h1) fun v_18 =>
obv (.of (ldn 2 h1 v_18) h1) fun v_20 => ifb true <|
arbV (newR [(.int .i64 0), (.int .i64 0)] h1) fun x_22 h23 =>
arbE (stR 2 h23 x_22 v_20) call fun v_24 h25 => lt h25 fun g25 => ifb (true && true) <|
arb (.val p_a0 g25) call fun v_26 h27 =>
arb (nckR v_26 h27) call fun v_28 h29 =>
arb (.of (fadR 1 v_28) h29) call fun v_30 h31 =>
arb (.of (ld1 h31 v_30) h31) call fun v_32 h33 =>
arb (.of (aBin P .add 3 (.tmp 17) (.const (.int .i64 1)) v_32 (.int .i64 1)) h33) call fun v_34 h35 =>
arb (nckR v_26 h35) call fun v_36 h37 =>
arb (.of (fadR 1 v_36) h37) call fun v_38 h39 =>
arb (stR 1 h39 v_38 v_34) call fun v_40 h41 =>
obv (.of (fadR 0 x_22) h41) fun v_42 =>
obv (.of (ld1 h41 v_42) h41) fun v_44 => ifb true <|
arbE (.call F_precentorhand_Pick [v_44, (.int .i64 9)] h41) call fun v_46 h47 => lt h47 fun g47 => ifb (true && true) <|
obv (.of (fadR 1 x_22) g47) fun v_48 =>
obv (.of (ld1 g47 v_48) g47) fun v_50 => ifb (isV v_50 (arVal (.of (ld1 h41 v_48) h41)) && true) <|
arbE (.call F_precentorhand_Pick [v_50, (.int .i64 9)] g47) call fun v_52 h53 => lt h53 fun g53 => ifb (true && true) <|
obv (.of (bldR [(.int .i64 0), (.int .i64 0)] [(0, 1, v_46), (1, 1, v_52)]) g53) fun v_54 =>
arbE (stR 2 g53 v_0 v_54) call fun v_56 h57 => lt h57 fun g57 => ifb (true && true) <|
k .ret (upd (upd (upd (upd (upd (upd (upd (upd (upd (upd (upd (upd (upd (upd (upd (upd (upd (upd (upd (upd (upd (upd (upd (upd (upd (upd (enterT [p_a0]) 2 v_0) 4 v_2) 5 v_4) 6 v_6) 7 v_8) 8 v_10) 9 v_12) 10 v_14) 11 v_16) 12 v_18) 13 v_20) 3 x_22) 14 v_26) 15 v_28) 16 v_30) 17 v_32) 18 v_34) 19 v_36) 20 v_38) 21 v_42) 22 v_44) 23 v_46) 24 v_48) 25 v_50) 26 v_52) 27 v_54) g57
theorem E_precentorlaw1_player_step (call : FuncId → List AVal → Heap → Res AVal) (fuel : Nat) (p_a0 : AVal) (h : Heap) : bodyR Try.prog call fuel Try.f35 [p_a0] h = S_precentorlaw1_player_step Try.prog call fuel p_a0 h := by kernel_rfl
theorem R_precentorlaw1_player_step {X : XTab} (p_a0 : AVal) {h : Heap} {Q : AVal → Heap → Prop} (hx : X F_precentorlaw1_player_step [p_a0] = none) (q : Tells (fun m => S_precentorlaw1_player_step Try.prog (acallX Try.prog X m) m p_a0 h) Q) :
    Tells (fun m => acallX Try.prog X m F_precentorlaw1_player_step [p_a0] h) Q :=
  Tells.later (q.le fun m => (E_precentorlaw1_player_step (acallX Try.prog X m) m p_a0 h) ▸ acallX_le Try.func35 hx m h)
theorem RV_precentorlaw1_player_step {X : XTab} {V : AVal → Heap → Prop} (p_a0 : AVal) {h : Heap} {Q : AVal → Heap → Prop} (hx : X F_precentorlaw1_player_step [p_a0] = none) (q : TellsV V (fun m => S_precentorlaw1_player_step Try.prog (acallX Try.prog X m) m p_a0 h) Q) :
    TellsV V (fun m => acallX Try.prog X m F_precentorlaw1_player_step [p_a0] h) Q :=
  TV.later (TV.le q fun m => (E_precentorlaw1_player_step (acallX Try.prog X m) m p_a0 h) ▸ acallX_le Try.func35 hx m h)

/-! ### (*precentor/precentorlaw1.player).run$1 -/

def S_precentorlaw1_player_run_1 (P : Program) (call : FuncId → List AVal → Heap → Res AVal) (fuel : Nat) (a0 a1 : AVal) (h : Heap) : Res AVal :=
lt (retK P []) fun k =>
arb (.of (ld1 h a0) h) call fun v_0 h1 =>
arb (.of (ld1 h1 a1) h1) call fun v_2 h3 =>
arb (.of (aBin P .add 3 (.tmp 3) (.const (.int .i64 1)) v_2 (.int .i64 1)) h3) call fun v_4 h5 =>
arb (.call F_precentorlaw1_player_run [v_0, v_4] h5) call fun v_6 h7 =>
k .normal (upd (upd (upd (upd (enterT [a0, a1]) 2 v_0) 3 v_2) 4 v_4) 5 v_6) h7
theorem E_precentorlaw1_player_run_1 (call : FuncId → List AVal → Heap → Res AVal) (fuel : Nat) (a0 a1 : AVal) (h : Heap) : bodyR Try.prog call fuel Try.f36 [a0, a1] h = S_precentorlaw1_player_run_1 Try.prog call fuel a0 a1 h := by kernel_rfl
theorem R_precentorlaw1_player_run_1 {X : XTab} (a0 a1 : AVal) {h : Heap} {Q : AVal → Heap → Prop} (hx : X F_precentorlaw1_player_run_1 [a0, a1] = none) (q : Tells (fun m => S_precentorlaw1_player_run_1 Try.prog (acallX Try.prog X m) m a0 a1 h) Q) :
    Tells (fun m => acallX Try.prog X m F_precentorlaw1_player_run_1 [a0, a1] h) Q :=
  Tells.later (q.le fun m => (E_precentorlaw1_player_run_1 (acallX Try.prog X m) m a0 a1 h) ▸ acallX_le Try.func36 hx m h)
theorem RV_precentorlaw1_player_run_1 {X : XTab} {V : AVal → Heap → Prop} (a0 a1 : AVal) {h : Heap} {Q : AVal → Heap → Prop} (hx : X F_precentorlaw1_player_run_1 [a0, a1] = none) (q : TellsV V (fun m => S_precentorlaw1_player_run_1 Try.prog (acallX Try.prog X m) m a0 a1 h) Q) :
    TellsV V (fun m => acallX Try.prog X m F_precentorlaw1_player_run_1 [a0, a1] h) Q :=
  TV.later (TV.le q fun m => (E_precentorlaw1_player_run_1 (acallX Try.prog X m) m a0 a1 h) ▸ acallX_le Try.func36 hx m h)

/-! ### (*precentor/precentorlaw1.player).run$2 -/

def S_precentorlaw1_player_run_2 (P : Program) (call : FuncId → List AVal → Heap → Res AVal) (fuel : Nat) (a0 a1 : AVal) (h : Heap) : Res AVal :=
lt (retK P []) fun k =>
arb (.of (ld1 h a0) h) call fun v_0 h1 =>
arb (.of (ld1 h1 a1) h1) call fun v_2 h3 =>
arb (.of (aBin P .add 3 (.tmp 3) (.const (.int .i64 1)) v_2 (.int .i64 1)) h3) call fun v_4 h5 =>
arb (.call F_precentorlaw1_player_run [v_0, v_4] h5) call fun v_6 h7 =>
k .normal (upd (upd (upd (upd (enterT [a0, a1]) 2 v_0) 3 v_2) 4 v_4) 5 v_6) h7
theorem E_precentorlaw1_player_run_2 (call : FuncId → List AVal → Heap → Res AVal) (fuel : Nat) (a0 a1 : AVal) (h : Heap) : bodyR Try.prog call fuel Try.f37 [a0, a1] h = S_precentorlaw1_player_run_2 Try.prog call fuel a0 a1 h := by kernel_rfl
theorem R_precentorlaw1_player_run_2 {X : XTab} (a0 a1 : AVal) {h : Heap} {Q : AVal → Heap → Prop} (hx : X F_precentorlaw1_player_run_2 [a0, a1] = none) (q : Tells (fun m => S_precentorlaw1_player_run_2 Try.prog (acallX Try.prog X m) m a0 a1 h) Q) :
    Tells (fun m => acallX Try.prog X m F_precentorlaw1_player_run_2 [a0, a1] h) Q :=
  Tells.later (q.le fun m => (E_precentorlaw1_player_run_2 (acallX Try.prog X m) m a0 a1 h) ▸ acallX_le Try.func37 hx m h)
theorem RV_precentorlaw1_player_run_2 {X : XTab} {V : AVal → Heap → Prop} (a0 a1 : AVal) {h : Heap} {Q : AVal → Heap → Prop} (hx : X F_precentorlaw1_player_run_2 [a0, a1] = none) (q : TellsV V (fun m => S_precentorlaw1_player_run_2 Try.prog (acallX Try.prog X m) m a0 a1 h) Q) :
    TellsV V (fun m => acallX Try.prog X m F_precentorlaw1_player_run_2 [a0, a1] h) Q :=
  TV.later (TV.le q fun m => (E_precentorlaw1_player_run_2 (acallX Try.prog X m) m a0 a1 h) ▸ acallX_le Try.func37 hx m h)

/-! ### (*precentor/precentorlaw1.player).run$3 -/

def S_precentorlaw1_player_run_3 (P : Program) (call : FuncId → List AVal → Heap → Res AVal) (fuel : Nat) (a0 a1 : AVal) (h : Heap) : Res AVal :=
lt (retK P []) fun k =>
arb (.of (ld1 h a0) h) call fun v_0 h1 =>
arb (.of (ld1 h1 a1) h1) call fun v_2 h3 =>
arb (.of (aBin P .add 3 (.tmp 3) (.const (.int .i64 1)) v_2 (.int .i64 1)) h3) call fun v_4 h5 =>
arb (.call F_precentorlaw1_player_run [v_0, v_4] h5) call fun v_6 h7 =>
k .normal (upd (upd (upd (upd (enterT [a0, a1]) 2 v_0) 3 v_2) 4 v_4) 5 v_6) h7
theorem E_precentorlaw1_player_run_3 (call : FuncId → List AVal → Heap → Res AVal) (fuel : Nat) (a0 a1 : AVal) (h : Heap) : bodyR Try.prog call fuel Try.f38 [a0, a1] h = S_precentorlaw1_player_run_3 Try.prog call fuel a0 a1 h := by kernel_rfl
theorem R_precentorlaw1_player_run_3 {X : XTab} (a0 a1 : AVal) {h : Heap} {Q : AVal → Heap → Prop} (hx : X F_precentorlaw1_player_run_3 [a0, a1] = none) (q : Tells (fun m => S_precentorlaw1_player_run_3 Try.prog (acallX Try.prog X m) m a0 a1 h) Q) :
    Tells (fun m => acallX Try.prog X m F_precentorlaw1_player_run_3 [a0, a1] h) Q :=
  Tells.later (q.le fun m => (E_precentorlaw1_player_run_3 (acallX Try.prog X m) m a0 a1 h) ▸ acallX_le Try.func38 hx m h)
theorem RV_precentorlaw1_player_run_3 {X : XTab} {V : AVal → Heap → Prop} (a0 a1 : AVal) {h : Heap} {Q : AVal → Heap → Prop} (hx : X F_precentorlaw1_player_run_3 [a0, a1] = none) (q : TellsV V (fun m => S_precentorlaw1_player_run_3 Try.prog (acallX Try.prog X m) m a0 a1 h) Q) :
    TellsV V (fun m => acallX Try.prog X m F_precentorlaw1_player_run_3 [a0, a1] h) Q :=
  TV.later (TV.le q fun m => (E_precentorlaw1_player_run_3 (acallX Try.prog X m) m a0 a1 h) ▸ acallX_le Try.func38 hx m h)

/-! ### (*precentor/precentorlaw1.player).run$4 -/

def S_precentorlaw1_player_run_4 (P : Program) (call : FuncId → List AVal → Heap → Res AVal) (fuel : Nat) (a0 : AVal) (h : Heap) : Res AVal :=
lt (retK P []) fun k =>
arb (.of (fadR 1 a0) h) call fun v_0 h1 =>
arb (.of (ld1 h1 v_0) h1) call fun v_2 h3 =>
arb (.val (.iface 3 v_2) h3) call fun v_4 h5 =>
arb (pncR v_4 h5) call fun v_6 h7 =>
k .normal (upd (upd (upd (enterT [a0]) 1 v_0) 2 v_2) 3 v_4) h7
theorem E_precentorlaw1_player_run_4 (call : FuncId → List AVal → Heap → Res AVal) (fuel : Nat) (a0 : AVal) (h : Heap) : bodyR Try.prog call fuel Try.f39 [a0] h = S_precentorlaw1_player_run_4 Try.prog call fuel a0 h := by kernel_rfl
theorem R_precentorlaw1_player_run_4 {X : XTab} (a0 : AVal) {h : Heap} {Q : AVal → Heap → Prop} (hx : X F_precentorlaw1_player_run_4 [a0] = none) (q : Tells (fun m => S_precentorlaw1_player_run_4 Try.prog (acallX Try.prog X m) m a0 h) Q) :
    Tells (fun m => acallX Try.prog X m F_precentorlaw1_player_run_4 [a0] h) Q :=
  Tells.later (q.le fun m => (E_precentorlaw1_player_run_4 (acallX Try.prog X m) m a0 h) ▸ acallX_le Try.func39 hx m h)
theorem RV_precentorlaw1_player_run_4 {X : XTab} {V : AVal → Heap → Prop} (a0 : AVal) {h : Heap} {Q : AVal → Heap → Prop} (hx : X F_precentorlaw1_player_run_4 [a0] = none) (q : TellsV V (fun m => S_precentorlaw1_player_run_4 Try.prog (acallX Try.prog X m) m a0 h) Q) :
    TellsV V (fun m => acallX Try.prog X m F_precentorlaw1_player_run_4 [a0] h) Q :=
  TV.later (TV.le q fun m => (E_precentorlaw1_player_run_4 (acallX Try.prog X m) m a0 h) ▸ acallX_le Try.func39 hx m h)


end Go.Proofs.Ytepdlgcoehpnbaa
