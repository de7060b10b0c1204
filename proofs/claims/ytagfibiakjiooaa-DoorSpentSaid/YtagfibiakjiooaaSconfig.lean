/-
  Functions of config in the form of YtagfibiakjiooaaABS (printed by a program of ours, gen.lean).
-/
import Derived.Test.YtagfibiakjiooaaSIds
set_option linter.unusedVariables false
namespace Go.Proofs.Ytagfibiakjiooaa
open Go.Ab
/-! ### precentor/config.Check -/
def J_config_Check_0 (P : Program) (call : FuncId → List AVal → Heap → Res AVal) (fuel : Nat) (k : Kn (AVal)) (t : T) (h : Heap) : Res (AVal) :=
arb (.val (.int .i64 0) h) call fun v_4 h5 =>
k .ret (upd t 2 v_4) h5

def S_config_Check (P : Program) (call : FuncId → List AVal → Heap → Res AVal) (fuel : Nat) (c_a0 : AVal) (h : Heap) : Res AVal :=
lt (retK P [.tmp 2]) fun k =>
arb (boxR c_a0 h) call fun c_0 h1 =>
arb (.val (.int .i64 0) h1) call fun v_2 h3 =>
lt (sqK (J_config_Check_0 P call fuel k) k) fun k6 =>
lt (blkK 0 k6) fun k7 =>
arb (.of (fadR 0 c_0) h3) call fun v_8 h9 =>
arb (.of (ld1 h9 v_8) h9) call fun v_10 h11 =>
arb (.call F_tree_Right [v_10] h11) call fun v_12 h13 =>
arb (.of (aUn P .not v_12) h13) call fun v_14 h15 =>
arb (.val v_14 h15) call fun v_16 h17 =>
cb v_16 (
arb (.val (.int .i64 3) h17) call fun v_18 h19 =>
k7 .ret (upd (upd (upd (upd (upd (upd (upd (upd (enterT [c_a0]) 1 c_0) 2 v_2) 4 v_8) 5 v_10) 6 v_12) 7 v_14) 3 v_16) 2 v_18) h19) (
arb (.of (fadR 1 c_0) h17) call fun v_20 h21 =>
arb (.of (ld1 h21 v_20) h21) call fun v_22 h23 =>
arb (.of (aBin P .lss 3 (.tmp 10) (.const (.int .i64 1)) v_22 (.int .i64 1)) h23) call fun v_24 h25 =>
arb (.val v_24 h25) call fun v_26 h27 =>
gd (wantB v_26 false) (fun c => arb (.of (fadR 1 c_0) h27) call c) h27 fun v_28 h29 =>
gd (wantB v_26 false) (fun c => arb (.of (ld1 h29 v_28) h29) call c) h29 fun v_30 h31 =>
gd (wantB v_26 false) (fun c => arb (.of (aBin P .gtr 3 (.tmp 14) (.const (.int .i64 8)) v_30 (.int .i64 8)) h31) call c) h31 fun v_32 h33 =>
arb (pkR v_26 (.bool true) v_32 h33) call fun v_34 h35 =>
arb (.val v_34 h35) call fun v_36 h37 =>
gd (wantB v_36 false) (fun c => arb (.of (fadR 2 c_0) h37) call c) h37 fun v_38 h39 =>
gd (wantB v_36 false) (fun c => arb (.of (ld1 h39 v_38) h39) call c) h39 fun v_40 h41 =>
gd (wantB v_36 false) (fun c => arb (.of (aBin P .lss 3 (.tmp 19) (.const (.int .i64 1)) v_40 (.int .i64 1)) h41) call c) h41 fun v_42 h43 =>
arb (pkR v_36 (.bool true) v_42 h43) call fun v_44 h45 =>
arb (.val v_44 h45) call fun v_46 h47 =>
gd (wantB v_46 false) (fun c => arb (.of (fadR 2 c_0) h47) call c) h47 fun v_48 h49 =>
gd (wantB v_46 false) (fun c => arb (.of (ld1 h49 v_48) h49) call c) h49 fun v_50 h51 =>
gd (wantB v_46 false) (fun c => arb (.of (aBin P .gtr 3 (.tmp 24) (.const (.int .i64 8)) v_50 (.int .i64 8)) h51) call c) h51 fun v_52 h53 =>
arb (pkR v_46 (.bool true) v_52 h53) call fun v_54 h55 =>
arb (.val v_54 h55) call fun v_56 h57 =>
cb v_56 (
arb (.val (.int .i64 1) h57) call fun v_58 h59 =>
k7 .ret (upd (upd (upd (upd (upd (upd (upd (upd (upd (upd (upd (upd (upd (upd (upd (upd (upd (upd (upd (upd (upd (upd (upd (upd (upd (upd (upd (enterT [c_a0]) 1 c_0) 2 v_2) 4 v_8) 5 v_10) 6 v_12) 7 v_14) 3 v_16) 9 v_20) 10 v_22) 11 v_24) 12 v_26) 13 v_28) 14 v_30) 15 v_32) 16 v_34) 17 v_36) 18 v_38) 19 v_40) 20 v_42) 21 v_44) 22 v_46) 23 v_48) 24 v_50) 25 v_52) 26 v_54) 8 v_56) 2 v_58) h59) (
arb (.of (fadR 3 c_0) h57) call fun v_60 h61 =>
arb (.of (ld1 h61 v_60) h61) call fun v_62 h63 =>
arb (.of (aBin P .lss 3 (.tmp 29) (.const (.int .i64 1)) v_62 (.int .i64 1)) h63) call fun v_64 h65 =>
arb (.val v_64 h65) call fun v_66 h67 =>
gd (wantB v_66 false) (fun c => arb (.of (fadR 3 c_0) h67) call c) h67 fun v_68 h69 =>
gd (wantB v_66 false) (fun c => arb (.of (ld1 h69 v_68) h69) call c) h69 fun v_70 h71 =>
gd (wantB v_66 false) (fun c => arb (.of (aBin P .gtr 3 (.tmp 33) (.const (.int .i64 8)) v_70 (.int .i64 8)) h71) call c) h71 fun v_72 h73 =>
arb (pkR v_66 (.bool true) v_72 h73) call fun v_74 h75 =>
arb (.val v_74 h75) call fun v_76 h77 =>
gd (wantB v_76 false) (fun c => arb (.of (fadR 4 c_0) h77) call c) h77 fun v_78 h79 =>
gd (wantB v_76 false) (fun c => arb (.of (ld1 h79 v_78) h79) call c) h79 fun v_80 h81 =>
gd (wantB v_76 false) (fun c => arb (.of (aBin P .lss 3 (.tmp 38) (.const (.int .i64 1)) v_80 (.int .i64 1)) h81) call c) h81 fun v_82 h83 =>
arb (pkR v_76 (.bool true) v_82 h83) call fun v_84 h85 =>
arb (.val v_84 h85) call fun v_86 h87 =>
gd (wantB v_86 false) (fun c => arb (.of (fadR 4 c_0) h87) call c) h87 fun v_88 h89 =>
gd (wantB v_86 false) (fun c => arb (.of (ld1 h89 v_88) h89) call c) h89 fun v_90 h91 =>
gd (wantB v_86 false) (fun c => arb (.of (aBin P .gtr 3 (.tmp 43) (.const (.int .i64 4)) v_90 (.int .i64 4)) h91) call c) h91 fun v_92 h93 =>
arb (pkR v_86 (.bool true) v_92 h93) call fun v_94 h95 =>
arb (.val v_94 h95) call fun v_96 h97 =>
cb v_96 (
arb (.val (.int .i64 1) h97) call fun v_98 h99 =>
k7 .ret (upd (upd (upd (upd (upd (upd (upd (upd (upd (upd (upd (upd (upd (upd (upd (upd (upd (upd (upd (upd (upd (upd (upd (upd (upd (upd (upd (upd (upd (upd (upd (upd (upd (upd (upd (upd (upd (upd (upd (upd (upd (upd (upd (upd (upd (upd (enterT [c_a0]) 1 c_0) 2 v_2) 4 v_8) 5 v_10) 6 v_12) 7 v_14) 3 v_16) 9 v_20) 10 v_22) 11 v_24) 12 v_26) 13 v_28) 14 v_30) 15 v_32) 16 v_34) 17 v_36) 18 v_38) 19 v_40) 20 v_42) 21 v_44) 22 v_46) 23 v_48) 24 v_50) 25 v_52) 26 v_54) 8 v_56) 28 v_60) 29 v_62) 30 v_64) 31 v_66) 32 v_68) 33 v_70) 34 v_72) 35 v_74) 36 v_76) 37 v_78) 38 v_80) 39 v_82) 40 v_84) 41 v_86) 42 v_88) 43 v_90) 44 v_92) 45 v_94) 27 v_96) 2 v_98) h99) (
arb (.of (fadR 5 c_0) h97) call fun v_100 h101 =>
arb (.of (ld1 h101 v_100) h101) call fun v_102 h103 =>
arb (.of (aBin P .lss 3 (.tmp 48) (.const (.int .i64 0)) v_102 (.int .i64 0)) h103) call fun v_104 h105 =>
arb (.val v_104 h105) call fun v_106 h107 =>
gd (wantB v_106 false) (fun c => arb (.of (fadR 5 c_0) h107) call c) h107 fun v_108 h109 =>
gd (wantB v_106 false) (fun c => arb (.of (ld1 h109 v_108) h109) call c) h109 fun v_110 h111 =>
gd (wantB v_106 false) (fun c => arb (.of (aBin P .gtr 3 (.tmp 52) (.const (.int .i64 4611686018427387904)) v_110 (.int .i64 4611686018427387904)) h111) call c) h111 fun v_112 h113 =>
arb (pkR v_106 (.bool true) v_112 h113) call fun v_114 h115 =>
arb (.val v_114 h115) call fun v_116 h117 =>
cb v_116 (
arb (.val (.int .i64 1) h117) call fun v_118 h119 =>
k7 .ret (upd (upd (upd (upd (upd (upd (upd (upd (upd (upd (upd (upd (upd (upd (upd (upd (upd (upd (upd (upd (upd (upd (upd (upd (upd (upd (upd (upd (upd (upd (upd (upd (upd (upd (upd (upd (upd (upd (upd (upd (upd (upd (upd (upd (upd (upd (upd (upd (upd (upd (upd (upd (upd (upd (upd (enterT [c_a0]) 1 c_0) 2 v_2) 4 v_8) 5 v_10) 6 v_12) 7 v_14) 3 v_16) 9 v_20) 10 v_22) 11 v_24) 12 v_26) 13 v_28) 14 v_30) 15 v_32) 16 v_34) 17 v_36) 18 v_38) 19 v_40) 20 v_42) 21 v_44) 22 v_46) 23 v_48) 24 v_50) 25 v_52) 26 v_54) 8 v_56) 28 v_60) 29 v_62) 30 v_64) 31 v_66) 32 v_68) 33 v_70) 34 v_72) 35 v_74) 36 v_76) 37 v_78) 38 v_80) 39 v_82) 40 v_84) 41 v_86) 42 v_88) 43 v_90) 44 v_92) 45 v_94) 27 v_96) 47 v_100) 48 v_102) 49 v_104) 50 v_106) 51 v_108) 52 v_110) 53 v_112) 54 v_114) 46 v_116) 2 v_118) h119) (
k7 .normal (upd (upd (upd (upd (upd (upd (upd (upd (upd (upd (upd (upd (upd (upd (upd (upd (upd (upd (upd (upd (upd (upd (upd (upd (upd (upd (upd (upd (upd (upd (upd (upd (upd (upd (upd (upd (upd (upd (upd (upd (upd (upd (upd (upd (upd (upd (upd (upd (upd (upd (upd (upd (upd (upd (enterT [c_a0]) 1 c_0) 2 v_2) 4 v_8) 5 v_10) 6 v_12) 7 v_14) 3 v_16) 9 v_20) 10 v_22) 11 v_24) 12 v_26) 13 v_28) 14 v_30) 15 v_32) 16 v_34) 17 v_36) 18 v_38) 19 v_40) 20 v_42) 21 v_44) 22 v_46) 23 v_48) 24 v_50) 25 v_52) 26 v_54) 8 v_56) 28 v_60) 29 v_62) 30 v_64) 31 v_66) 32 v_68) 33 v_70) 34 v_72) 35 v_74) 36 v_76) 37 v_78) 38 v_80) 39 v_82) 40 v_84) 41 v_86) 42 v_88) 43 v_90) 44 v_92) 45 v_94) 27 v_96) 47 v_100) 48 v_102) 49 v_104) 50 v_106) 51 v_108) 52 v_110) 53 v_112) 54 v_114) 46 v_116) h117))))
theorem E_config_Check (call : FuncId → List AVal → Heap → Res AVal) (fuel : Nat) (c_a0 : AVal) (h : Heap) : bodyR Try.prog call fuel Try.f10 [c_a0] h = S_config_Check Try.prog call fuel c_a0 h := by kernel_rfl
theorem R_config_Check {X : XTab} (c_a0 : AVal) {h : Heap} {Q : AVal → Heap → Prop} (hx : X F_config_Check [c_a0] = none) (q : Tells (fun m => S_config_Check Try.prog (acallX Try.prog X m) m c_a0 h) Q) :
    Tells (fun m => acallX Try.prog X m F_config_Check [c_a0] h) Q :=
  Tells.later (q.le fun m => (E_config_Check (acallX Try.prog X m) m c_a0 h) ▸ acallX_le Try.func10 hx m h)

/-! ### precentor/config.Brokers -/
def J_config_Brokers_0 (P : Program) (call : FuncId → List AVal → Heap → Res AVal) (fuel : Nat) (k : Kn (AVal)) (t : T) (h : Heap) : Res (AVal) :=
arb (.of (fadR 0 (t 1)) h) call fun v_4 h5 =>
arb (.of (ld1 h5 v_4) h5) call fun v_6 h7 =>
arb (.of (lenL v_6) h7) call fun v_8 h9 =>
arb (.of (aBin P .add 3 (.tmp 8) (.const (.int .i64 1)) v_8 (.int .i64 1)) h9) call fun v_10 h11 =>
arb (.val v_10 h11) call fun v_12 h13 =>
k .ret (upd (upd (upd (upd (upd t 6 v_4) 7 v_6) 8 v_8) 9 v_10) 2 v_12) h13

def S_config_Brokers (P : Program) (call : FuncId → List AVal → Heap → Res AVal) (fuel : Nat) (c_a0 : AVal) (h : Heap) : Res AVal :=
lt (retK P [.tmp 2]) fun k =>
arb (boxR c_a0 h) call fun c_0 h1 =>
arb (.val (.int .i64 0) h1) call fun v_2 h3 =>
lt (sqK (J_config_Brokers_0 P call fuel k) k) fun k14 =>
arb (.of (ldn 6 h3 c_0) h3) call fun v_15 h16 =>
arb (.call F_config_Check [v_15] h16) call fun v_17 h18 =>
arb (.of (aBin P .neq 28 (.tmp 4) (.const (.int .i64 0)) v_17 (.int .i64 0)) h18) call fun v_19 h20 =>
cb v_19 (
arb (.val (.int .i64 0) h20) call fun v_21 h22 =>
k14 .ret (upd (upd (upd (upd (upd (upd (enterT [c_a0]) 1 c_0) 2 v_2) 3 v_15) 4 v_17) 5 v_19) 2 v_21) h22) (
k14 .normal (upd (upd (upd (upd (upd (enterT [c_a0]) 1 c_0) 2 v_2) 3 v_15) 4 v_17) 5 v_19) h20)
theorem E_config_Brokers (call : FuncId → List AVal → Heap → Res AVal) (fuel : Nat) (c_a0 : AVal) (h : Heap) : bodyR Try.prog call fuel Try.f11 [c_a0] h = S_config_Brokers Try.prog call fuel c_a0 h := by kernel_rfl
theorem R_config_Brokers {X : XTab} (c_a0 : AVal) {h : Heap} {Q : AVal → Heap → Prop} (hx : X F_config_Brokers [c_a0] = none) (q : Tells (fun m => S_config_Brokers Try.prog (acallX Try.prog X m) m c_a0 h) Q) :
    Tells (fun m => acallX Try.prog X m F_config_Brokers [c_a0] h) Q :=
  Tells.later (q.le fun m => (E_config_Brokers (acallX Try.prog X m) m c_a0 h) ▸ acallX_le Try.func11 hx m h)


end Go.Proofs.Ytagfibiakjiooaa
