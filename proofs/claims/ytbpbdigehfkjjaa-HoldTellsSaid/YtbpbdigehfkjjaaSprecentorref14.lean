/-
  Functions of precentorref14 in the form of YtbpbdigehfkjjaaABS (printed by a program of ours, gen.lean).
-/
import Derived.Test.YtbpbdigehfkjjaaSIds
set_option linter.unusedVariables false
namespace Go.Proofs.Ytbpbdigehfkjjaa
open Go.Ab
/-! ### precentor/precentorref14.NewHold -/

def S_precentorref14_NewHold (P : Program) (call : FuncId → List AVal → Heap → Res AVal) (fuel : Nat) (most_a0 own_a1 : AVal) (h : Heap) : Res AVal :=
lt (retK P [.tmp 4]) fun k =>
arb (.val .nilp h) call fun v_0 h1 =>
arb (.val most_a0 h1) call fun v_2 h3 =>
arb (.of (aPureB P (Builtin.max_ #[3, 3] 3) [(.int .i64 0), v_2]) h3) call fun v_4 h5 =>
arb (.val own_a1 h5) call fun v_6 h7 =>
arb (.call F_precentorref9_NewClock [v_6] h7) call fun v_8 h9 =>
arb (.of (bldR [(.int .i64 0), .nils, .nils, .nils] [(0, 1, v_4), (2, 2, v_8)]) h9) call fun v_10 h11 =>
arb (boxR v_10 h11) call fun v_12 h13 =>
arb (.val v_12 h13) call fun v_14 h15 =>
k .ret (upd (upd (upd (upd (upd (upd (upd (upd (enterT [most_a0, own_a1]) 4 v_0) 5 v_2) 6 v_4) 7 v_6) 8 v_8) 9 v_10) 10 v_12) 4 v_14) h15
theorem E_precentorref14_NewHold (call : FuncId → List AVal → Heap → Res AVal) (fuel : Nat) (most_a0 own_a1 : AVal) (h : Heap) : bodyR Try.prog call fuel Try.f15 [most_a0, own_a1] h = S_precentorref14_NewHold Try.prog call fuel most_a0 own_a1 h := by kernel_rfl
theorem R_precentorref14_NewHold {X : XTab} (most_a0 own_a1 : AVal) {h : Heap} {Q : AVal → Heap → Prop} (hx : X F_precentorref14_NewHold [most_a0, own_a1] = none) (q : Tells (fun m => S_precentorref14_NewHold Try.prog (acallX Try.prog X m) m most_a0 own_a1 h) Q) :
    Tells (fun m => acallX Try.prog X m F_precentorref14_NewHold [most_a0, own_a1] h) Q :=
  Tells.later (q.le fun m => (E_precentorref14_NewHold (acallX Try.prog X m) m most_a0 own_a1 h) ▸ acallX_le Try.func15 hx m h)

/-! ### (*precentor/precentorref14.Hold).Put -/
def J_precentorref14_Hold_Put_1 (P : Program) (call : FuncId → List AVal → Heap → Res AVal) (fuel : Nat) (k : Kn (AVal)) (t : T) (h : Heap) : Res (AVal) :=
obv (.val (t 0) h) fun v_4 =>
arbV (bslR 7 [] 0 h []) fun v_6 h7 =>
obv (.val (t 0) h7) fun v_8 =>
obv (nckR v_8 h7) fun v_10 =>
obv (.of (fadR 1 v_10) h7) fun v_12 =>
obv (.of (ld1 (killIf true h7 h.next) v_12) (killIf true h7 h.next)) fun v_14 => ifb true <|
arbE (appR 7 88 h7 v_6 v_14) call fun v_16 h17 => lt h17 fun g17 => ifb (true && true) <|
obv (.of (ldn 7 (killIf true g17 h.next) (t 3)) (killIf true g17 h.next)) fun v_18 => ifb (isV v_18 (arVal (.of (ldn 7 (killIf true h7 h.next) (t 3)) (killIf true h7 h.next))) && true) <|
arbV (bslR 7 [(.int .i64 0), (.int .i64 0), (.int .i64 0), (.int .i64 0), (.int .i64 0), .nils, .nils] 1 g17 [(0, 7, v_18)]) fun v_20 h21 =>
arbE (appR 7 88 h21 v_16 v_20) call fun v_22 h23 => lt h23 fun g23 => ifb (true && true) <|
obv (nckR v_4 g23) fun v_24 =>
obv (.of (fadR 1 v_24) g23) fun v_26 =>
arbE (stR 1 g23 v_26 v_22) call fun v_28 h29 => lt h29 fun g29 => ifb (true && true) <|
arb (.val (.int .i64 0) g29) call fun v_30 h31 =>
k .ret (upd (upd (upd (upd (upd (upd (upd (upd (upd (upd (upd (upd (upd t 49 v_4) 50 v_6) 51 v_8) 52 v_10) 53 v_12) 54 v_14) 55 v_16) 56 v_18) 57 v_20) 58 v_22) 59 v_24) 60 v_26) 4 v_30) h31

def J_precentorref14_Hold_Put_0 (P : Program) (call : FuncId → List AVal → Heap → Res AVal) (fuel : Nat) (k : Kn (AVal)) (t : T) (h : Heap) : Res (AVal) :=
lt (sqK (J_precentorref14_Hold_Put_1 P call fuel k) k) fun k32 =>
obv (.val (t 0) h) fun v_33 =>
obv (nckR v_33 h) fun v_34 =>
obv (.of (fadR 1 v_34) h) fun v_35 =>
obv (.of (ld1 h v_35) h) fun v_36 =>
obv (.of (lenL v_36) h) fun v_37 =>
obv (.val (t 0) h) fun v_38 =>
obv (nckR v_38 h) fun v_39 =>
obv (.of (fadR 0 v_39) h) fun v_40 =>
obv (.of (ld1 h v_40) h) fun v_41 =>
obv (.of (aBin P .geq 3 (.tmp 43) (.tmp 47) v_37 v_41) h) fun v_42 =>
cb v_42 (
arb (.val (.int .i64 6) h) call fun v_43 h44 =>
k32 .ret (upd (upd (upd (upd (upd (upd (upd (upd (upd (upd (upd t 39 v_33) 40 v_34) 41 v_35) 42 v_36) 43 v_37) 44 v_38) 45 v_39) 46 v_40) 47 v_41) 48 v_42) 4 v_43) h44) (
k32 .normal (upd (upd (upd (upd (upd (upd (upd (upd (upd (upd t 39 v_33) 40 v_34) 41 v_35) 42 v_36) 43 v_37) 44 v_38) 45 v_39) 46 v_40) 47 v_41) 48 v_42) h)

def J_precentorref14_Hold_Put_4 (P : Program) (call : FuncId → List AVal → Heap → Res AVal) (fuel : Nat) (k : Kn (Ex × T)) (t : T) (h : Heap) : Res (Ex × T) :=
arb (.val (t 5) h) call fun v_49 h50 =>
arb (.of (aBin P .add 3 (.tmp 13) (.const (.int .i64 1)) v_49 (.int .i64 1)) h50) call fun v_51 h52 =>
arb (.val v_51 h52) call fun i_53 h54 =>
k .normal (upd (upd (upd t 13 v_49) 14 v_51) 5 i_53) h54

def J_precentorref14_Hold_Put_3 (P : Program) (call : FuncId → List AVal → Heap → Res AVal) (fuel : Nat) (k : Kn (Ex × T)) (t : T) (h : Heap) : Res (Ex × T) :=
lt (sqK (J_precentorref14_Hold_Put_4 P call fuel k) k) fun k55 =>
lt (blkK 1 k55) fun k56 =>
obv (.val (t 0) h) fun v_57 =>
obv (nckR v_57 h) fun v_58 =>
obv (.of (fadR 1 v_58) h) fun v_59 =>
obv (.of (ld1 h v_59) h) fun v_60 =>
obv (.val (t 5) h) fun v_61 =>
obv (.of (ixsR 7 v_60 v_61) h) fun v_62 =>
obv (.of (fadR 0 v_62) h) fun v_63 =>
obv (.of (ld1 h v_63) h) fun v_64 =>
obv (.of (fadR 0 (t 3)) h) fun v_65 =>
obv (.of (ld1 h v_65) h) fun v_66 =>
obv (.of (aBin P .eql 3 (.tmp 22) (.tmp 24) v_64 v_66) h) fun v_67 =>
obv (.val v_67 h) fun v_68 =>
gd (wantB v_68 true) (fun c => obv (.val (t 0) h) fun v => c v h) h fun v_69 h70 =>
gd (wantB v_68 true) (fun c => obv (nckR v_69 h70) fun v => c v h70) h70 fun v_71 h72 =>
gd (wantB v_68 true) (fun c => obv (.of (fadR 1 v_71) h72) fun v => c v h72) h72 fun v_73 h74 =>
gd (wantB v_68 true) (fun c => obv (.of (ld1 h74 v_73) h74) fun v => c v h74) h74 fun v_75 h76 =>
gd (wantB v_68 true) (fun c => obv (.val (t 5) h76) fun v => c v h76) h76 fun v_77 h78 =>
gd (wantB v_68 true) (fun c => obv (.of (ixsR 7 v_75 v_77) h78) fun v => c v h78) h78 fun v_79 h80 =>
gd (wantB v_68 true) (fun c => obv (.of (fadR 2 v_79) h80) fun v => c v h80) h80 fun v_81 h82 =>
gd (wantB v_68 true) (fun c => obv (.of (ld1 h82 v_81) h82) fun v => c v h82) h82 fun v_83 h84 =>
gd (wantB v_68 true) (fun c => obv (.of (fadR 2 (t 3)) h84) fun v => c v h84) h84 fun v_85 h86 =>
gd (wantB v_68 true) (fun c => obv (.of (ld1 h86 v_85) h86) fun v => c v h86) h86 fun v_87 h88 =>
gd (wantB v_68 true) (fun c => obv (.of (aBin P .eql 3 (.tmp 34) (.tmp 36) v_83 v_87) h88) fun v => c v h88) h88 fun v_89 h90 =>
obv (pkR v_68 v_89 (.bool false) h90) fun v_91 =>
cb v_91 (
arb (.val (.int .i64 5) h90) call fun v_92 h93 =>
k56 .ret (upd (upd (upd (upd (upd (upd (upd (upd (upd (upd (upd (upd (upd (upd (upd (upd (upd (upd (upd (upd (upd (upd (upd (upd (upd t 15 v_57) 16 v_58) 17 v_59) 18 v_60) 19 v_61) 20 v_62) 21 v_63) 22 v_64) 23 v_65) 24 v_66) 25 v_67) 26 v_68) 27 v_69) 28 v_71) 29 v_73) 30 v_75) 31 v_77) 32 v_79) 33 v_81) 34 v_83) 35 v_85) 36 v_87) 37 v_89) 38 v_91) 4 v_92) h93) (
k56 .normal (upd (upd (upd (upd (upd (upd (upd (upd (upd (upd (upd (upd (upd (upd (upd (upd (upd (upd (upd (upd (upd (upd (upd (upd t 15 v_57) 16 v_58) 17 v_59) 18 v_60) 19 v_61) 20 v_62) 21 v_63) 22 v_64) 23 v_65) 24 v_66) 25 v_67) 26 v_68) 27 v_69) 28 v_71) 29 v_73) 30 v_75) 31 v_77) 32 v_79) 33 v_81) 34 v_83) 35 v_85) 36 v_87) 37 v_89) 38 v_91) h90)

def L_precentorref14_Hold_Put_2 (P : Program) (call : FuncId → List AVal → Heap → Res AVal) (fuel : Nat) (t : T) (h : Heap) : Res (Ex × T) :=
lt okK fun k =>
lt (sqK (J_precentorref14_Hold_Put_3 P call fuel k) k) fun k94 =>
arb (.val (t 5) h) call fun v_95 h96 =>
arb (.val (t 0) h96) call fun v_97 h98 =>
arb (nckR v_97 h98) call fun v_99 h100 =>
arb (.of (fadR 1 v_99) h100) call fun v_101 h102 =>
arb (.of (ld1 h102 v_101) h102) call fun v_103 h104 =>
arb (.of (lenL v_103) h104) call fun v_105 h106 =>
arb (.of (aBin P .lss 3 (.tmp 6) (.tmp 11) v_95 v_105) h106) call fun v_107 h108 =>
cb v_107 (
k94 .normal (upd (upd (upd (upd (upd (upd (upd t 6 v_95) 7 v_97) 8 v_99) 9 v_101) 10 v_103) 11 v_105) 12 v_107) h108) (
k94 (.exit 0) (upd (upd (upd (upd (upd (upd (upd t 6 v_95) 7 v_97) 8 v_99) 9 v_101) 10 v_103) 11 v_105) 12 v_107) h108)

def S_precentorref14_Hold_Put (P : Program) (call : FuncId → List AVal → Heap → Res AVal) (fuel : Nat) (h_a0 e_a1 : AVal) (h : Heap) : Res AVal :=
lt (retK P [.tmp 4]) fun k =>
arb (boxR e_a1 h) call fun e_0 h1 =>
arb (.val (.int .i64 0) h1) call fun v_2 h3 =>
lt (sqK (J_precentorref14_Hold_Put_0 P call fuel k) k) fun k45 =>
arb (.val (.int .i64 0) h3) call fun i_46 h47 =>
lt (blkK 0 k45) fun k48 =>
(loopN (L_precentorref14_Hold_Put_2 P call fuel) fuel (upd (upd (upd (enterT [h_a0, e_a1]) 3 e_0) 4 v_2) 5 i_46) h47).bind (lpK k48)
theorem E_precentorref14_Hold_Put (call : FuncId → List AVal → Heap → Res AVal) (fuel : Nat) (h_a0 e_a1 : AVal) (h : Heap) : bodyR Try.prog call fuel Try.f17 [h_a0, e_a1] h = S_precentorref14_Hold_Put Try.prog call fuel h_a0 e_a1 h := by kernel_rfl
theorem R_precentorref14_Hold_Put {X : XTab} (h_a0 e_a1 : AVal) {h : Heap} {Q : AVal → Heap → Prop} (hx : X F_precentorref14_Hold_Put [h_a0, e_a1] = none) (q : Tells (fun m => S_precentorref14_Hold_Put Try.prog (acallX Try.prog X m) m h_a0 e_a1 h) Q) :
    Tells (fun m => acallX Try.prog X m F_precentorref14_Hold_Put [h_a0, e_a1] h) Q :=
  Tells.later (q.le fun m => (E_precentorref14_Hold_Put (acallX Try.prog X m) m h_a0 e_a1 h) ▸ acallX_le Try.func17 hx m h)

/-! ### (*precentor/precentorref14.Hold).Next -/
def J_precentorref14_Hold_Next_0 (P : Program) (call : FuncId → List AVal → Heap → Res AVal) (fuel : Nat) (k : Kn (AVal)) (t : T) (h : Heap) : Res (AVal) :=
arb (.of (bldR [(.int .i64 0), (.int .i64 0), (.int .i64 0), (.int .i64 0), (.int .i64 0), .nils, .nils] []) h) call fun v_4 h5 =>
arb (stR 7 h5 (t 2) v_4) call fun v_6 h7 =>
arb (.val (.bool false) h7) call fun v_8 h9 =>
k .ret (upd (upd t 65 v_4) 3 v_8) h9

def J_precentorref14_Hold_Next_3 (P : Program) (call : FuncId → List AVal → Heap → Res AVal) (fuel : Nat) (k : Kn (Ex × T)) (t : T) (h : Heap) : Res (Ex × T) :=
arb (.val (t 4) h) call fun v_14 h15 =>
arb (.of (aBin P .add 3 (.tmp 13) (.const (.int .i64 1)) v_14 (.int .i64 1)) h15) call fun v_16 h17 =>
arb (.val v_16 h17) call fun i_18 h19 =>
k .normal (upd (upd (upd t 13 v_14) 14 v_16) 4 i_18) h19

def J_precentorref14_Hold_Next_2 (P : Program) (call : FuncId → List AVal → Heap → Res AVal) (fuel : Nat) (k : Kn (Ex × T)) (t : T) (h : Heap) : Res (Ex × T) :=
lt (sqK (J_precentorref14_Hold_Next_3 P call fuel k) k) fun k20 =>
lt (blkK 1 k20) fun k21 =>
obv (.val (t 0) h) fun v_22 =>
obv (nckR v_22 h) fun v_24 =>
obv (.of (fadR 2 v_24) h) fun v_26 =>
obv (.of (ldn 2 h v_26) h) fun v_28 => ifb true <|
obv (.val (t 0) h) fun v_30 =>
obv (nckR v_30 h) fun v_32 =>
obv (.of (fadR 1 v_32) h) fun v_34 =>
obv (.of (ld1 h v_34) h) fun v_36 => ifb true <|
obv (.val (t 4) h) fun v_38 =>
obv (.of (ixsR 7 v_36 v_38) h) fun v_40 =>
obv (.of (fadR 6 v_40) h) fun v_42 =>
obv (.of (ld1 h v_42) h) fun v_44 => ifb true <|
arbE (.call F_precentorref9_Clock_Due [v_28, v_44] h) call fun v_46 h47 => lt h47 fun g47 => ifb (true && true) <|
cb v_46 (
arb (.val (t 0) g47) call fun v_48 h49 =>
arb (nckR v_48 h49) call fun v_50 h51 =>
arb (.of (fadR 1 v_50) h51) call fun v_52 h53 =>
arb (.of (ld1 h53 v_52) h53) call fun v_54 h55 =>
arb (.val (t 4) h55) call fun v_56 h57 =>
arb (.of (ixsR 7 v_54 v_56) h57) call fun v_58 h59 =>
arb (.of (ldn 7 h59 v_58) h59) call fun v_60 h61 =>
arb (newR [(.int .i64 0), (.int .i64 0), (.int .i64 0), (.int .i64 0), (.int .i64 0), .nils, .nils] h61) call fun e_62 h63 =>
arb (stR 7 h63 e_62 v_60) call fun v_64 h65 =>
obv (.val (t 0) h65) fun v_66 =>
obv (.val (t 0) h65) fun v_68 =>
obv (nckR v_68 h65) fun v_70 =>
obv (.of (fadR 2 v_70) h65) fun v_72 =>
obv (.of (ldn 2 h65 v_72) h65) fun v_74 => ifb true <|
obv (.of (fadR 6 e_62) h65) fun v_76 =>
obv (.of (ld1 h65 v_76) h65) fun v_78 => ifb true <|
arbE (.call F_precentorref9_Clock_Take [v_74, v_78] h65) call fun v_80 h81 => lt h81 fun g81 => ifb (true && true) <|
obv (nckR v_66 g81) fun v_82 =>
obv (.of (fadR 2 v_82) g81) fun v_84 =>
arbE (stR 2 g81 v_84 v_80) call fun v_86 h87 => lt h87 fun g87 => ifb (true && true) <|
obv (.val (t 0) g87) fun v_88 =>
arbV (bslR 7 [] 0 g87 []) fun v_90 h91 =>
obv (.val (t 0) h91) fun v_92 =>
obv (nckR v_92 h91) fun v_94 =>
obv (.of (fadR 1 v_94) h91) fun v_96 =>
obv (.of (ld1 (killIf true h91 g87.next) v_96) (killIf true h91 g87.next)) fun v_98 => ifb true <|
obv (.val (t 4) h91) fun v_100 =>
obv (.of (slcR 7 v_98 none (some v_100) none) h91) fun v_102 =>
arbE (appR 7 88 h91 v_90 v_102) call fun v_104 h105 => lt h105 fun g105 => ifb (true && true) <|
obv (.val (t 0) g105) fun v_106 =>
obv (nckR v_106 g105) fun v_108 =>
obv (.of (fadR 1 v_108) g105) fun v_110 =>
obv (.of (ld1 (killIf true g105 g87.next) v_110) (killIf true g105 g87.next)) fun v_112 => ifb (isV v_112 (arVal (.of (ld1 (killIf true h91 g87.next) v_110) (killIf true h91 g87.next))) && true) <|
obv (.val (t 4) g105) fun v_114 =>
obv (.of (aBin P .add 3 (.tmp 58) (.const (.int .i64 1)) v_114 (.int .i64 1)) g105) fun v_116 =>
obv (.of (slcR 7 v_112 (some v_116) none none) g105) fun v_118 =>
arbE (appR 7 88 g105 v_104 v_118) call fun v_120 h121 => lt h121 fun g121 => ifb (true && true) <|
obv (nckR v_88 g121) fun v_122 =>
obv (.of (fadR 1 v_122) g121) fun v_124 =>
arbE (stR 1 g121 v_124 v_120) call fun v_126 h127 => lt h127 fun g127 => ifb (true && true) <|
arb (.of (ldn 7 g127 e_62) g127) call fun v_128 h129 =>
arb (stR 7 h129 (t 2) v_128) call fun v_130 h131 =>
arb (.val (.bool true) h131) call fun v_132 h133 =>
k21 .ret (upd (upd (upd (upd (upd (upd (upd (upd (upd (upd (upd (upd (upd (upd (upd (upd (upd (upd (upd (upd (upd (upd (upd (upd (upd (upd (upd (upd (upd (upd (upd (upd (upd (upd (upd (upd (upd (upd (upd (upd (upd (upd (upd (upd (upd (upd (upd (upd (upd (upd (upd (upd t 15 v_22) 16 v_24) 17 v_26) 18 v_28) 19 v_30) 20 v_32) 21 v_34) 22 v_36) 23 v_38) 24 v_40) 25 v_42) 26 v_44) 27 v_46) 28 v_48) 29 v_50) 30 v_52) 31 v_54) 32 v_56) 33 v_58) 34 v_60) 5 e_62) 35 v_66) 36 v_68) 37 v_70) 38 v_72) 39 v_74) 40 v_76) 41 v_78) 42 v_80) 43 v_82) 44 v_84) 45 v_88) 46 v_90) 47 v_92) 48 v_94) 49 v_96) 50 v_98) 51 v_100) 52 v_102) 53 v_104) 54 v_106) 55 v_108) 56 v_110) 57 v_112) 58 v_114) 59 v_116) 60 v_118) 61 v_120) 62 v_122) 63 v_124) 64 v_128) 3 v_132) h133) (
k21 .normal (upd (upd (upd (upd (upd (upd (upd (upd (upd (upd (upd (upd (upd t 15 v_22) 16 v_24) 17 v_26) 18 v_28) 19 v_30) 20 v_32) 21 v_34) 22 v_36) 23 v_38) 24 v_40) 25 v_42) 26 v_44) 27 v_46) g47)

def L_precentorref14_Hold_Next_1 (P : Program) (call : FuncId → List AVal → Heap → Res AVal) (fuel : Nat) (t : T) (h : Heap) : Res (Ex × T) :=
lt okK fun k =>
lt (sqK (J_precentorref14_Hold_Next_2 P call fuel k) k) fun k134 =>
arb (.val (t 4) h) call fun v_135 h136 =>
arb (.val (t 0) h136) call fun v_137 h138 =>
arb (nckR v_137 h138) call fun v_139 h140 =>
arb (.of (fadR 1 v_139) h140) call fun v_141 h142 =>
arb (.of (ld1 h142 v_141) h142) call fun v_143 h144 =>
arb (.of (lenL v_143) h144) call fun v_145 h146 =>
arb (.of (aBin P .lss 3 (.tmp 6) (.tmp 11) v_135 v_145) h146) call fun v_147 h148 =>
cb v_147 (
k134 .normal (upd (upd (upd (upd (upd (upd (upd t 6 v_135) 7 v_137) 8 v_139) 9 v_141) 10 v_143) 11 v_145) 12 v_147) h148) (
k134 (.exit 0) (upd (upd (upd (upd (upd (upd (upd t 6 v_135) 7 v_137) 8 v_139) 9 v_141) 10 v_143) 11 v_145) 12 v_147) h148)

theorem C_precentorref14_Hold_Next_0 (h : Heap) (a : AVal) : aLoad Try.prog h 32 a = ldn 7 h a := by kernel_rfl
def S_precentorref14_Hold_Next (P : Program) (call : FuncId → List AVal → Heap → Res AVal) (fuel : Nat) (h_a0 : AVal) (h : Heap) : Res AVal :=
lt (retK P [.cell 2 32, .tmp 3]) fun k =>
arb (newR [(.int .i64 0), (.int .i64 0), (.int .i64 0), (.int .i64 0), (.int .i64 0), .nils, .nils] h) call fun v_0 h1 =>
arb (.val (.bool false) h1) call fun v_2 h3 =>
lt (sqK (J_precentorref14_Hold_Next_0 P call fuel k) k) fun k10 =>
arb (.val (.int .i64 0) h3) call fun i_11 h12 =>
lt (blkK 0 k10) fun k13 =>
(loopN (L_precentorref14_Hold_Next_1 P call fuel) fuel (upd (upd (upd (enterT [h_a0]) 2 v_0) 3 v_2) 4 i_11) h12).bind (lpK k13)
theorem E_precentorref14_Hold_Next (call : FuncId → List AVal → Heap → Res AVal) (fuel : Nat) (h_a0 : AVal) (h : Heap) : bodyR Try.prog call fuel Try.f18 [h_a0] h = S_precentorref14_Hold_Next Try.prog call fuel h_a0 h := by kernel_rfl
theorem R_precentorref14_Hold_Next {X : XTab} (h_a0 : AVal) {h : Heap} {Q : AVal → Heap → Prop} (hx : X F_precentorref14_Hold_Next [h_a0] = none) (q : Tells (fun m => S_precentorref14_Hold_Next Try.prog (acallX Try.prog X m) m h_a0 h) Q) :
    Tells (fun m => acallX Try.prog X m F_precentorref14_Hold_Next [h_a0] h) Q :=
  Tells.later (q.le fun m => (E_precentorref14_Hold_Next (acallX Try.prog X m) m h_a0 h) ▸ acallX_le Try.func18 hx m h)


end Go.Proofs.Ytbpbdigehfkjjaa
