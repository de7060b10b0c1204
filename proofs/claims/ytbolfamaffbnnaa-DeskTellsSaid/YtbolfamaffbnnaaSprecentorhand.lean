/-
  Functions of precentorhand in the form of YtbolfamaffbnnaaABS (printed by a program of ours, gen.lean).
-/
import Derived.Test.YtbolfamaffbnnaaSIds
set_option linter.unusedVariables false
namespace Go.Proofs.Ytbolfamaffbnnaa
open Go.Ab
/-! ### (*precentor/precentorhand.Feed).Next -/
def J_precentorhand_Feed_Next_0 (P : Program) (call : FuncId → List AVal → Heap → Res AVal) (fuel : Nat) (k : Kn (AVal)) (t : T) (h : Heap) : Res (AVal) :=
obv (.val (t 0) h) fun v_2 =>
obv (nckR v_2 h) fun v_3 =>
obv (.of (fadR 0 v_3) h) fun v_4 =>
obv (.of (ld1 h v_4) h) fun v_5 =>
obv (.val (t 0) h) fun v_6 =>
obv (nckR v_6 h) fun v_7 =>
obv (.of (fadR 1 v_7) h) fun v_8 =>
obv (.of (ld1 h v_8) h) fun v_9 =>
obv (.val (t 0) h) fun v_10 =>
obv (nckR v_10 h) fun v_11 =>
obv (.of (fadR 0 v_11) h) fun v_12 =>
obv (.of (ld1 h v_12) h) fun v_13 =>
obv (.of (lenL v_13) h) fun v_14 =>
obv (.of (aBin P .rem 3 (.tmp 19) (.tmp 24) v_9 v_14) h) fun v_15 =>
obv (.of (ixsR 1 v_5 v_15) h) fun v_16 =>
obv (.of (ld1 h v_16) h) fun v_17 =>
obv (.val (t 0) h) fun v_18 =>
obv (nckR v_18 h) fun v_19 =>
obv (.of (fadR 1 v_19) h) fun v_20 =>
obv (.of (ld1 h v_20) h) fun v_21 =>
obv (.val (t 0) h) fun v_22 =>
obv (nckR v_22 h) fun v_23 =>
obv (.of (fadR 0 v_23) h) fun v_24 =>
obv (.of (ld1 h v_24) h) fun v_25 =>
obv (.of (lenL v_25) h) fun v_26 =>
obv (.of (aBin P .quo 3 (.tmp 31) (.tmp 36) v_21 v_26) h) fun v_27 =>
obv (.of (aBin P .add 3 (.const (.int .i64 1)) (.tmp 37) (.int .i64 1) v_27) h) fun v_28 =>
obv (.of (aBin P .quo 3 (.tmp 27) (.tmp 38) v_17 v_28) h) fun v_29 =>
obv (.val (t 0) h) fun v_30 =>
obv (nckR v_30 h) fun v_31 =>
obv (.of (fadR 1 v_31) h) fun v_32 =>
obv (.of (ld1 h v_32) h) fun v_33 =>
obv (.val (t 0) h) fun v_34 =>
obv (nckR v_34 h) fun v_35 =>
obv (.of (fadR 0 v_35) h) fun v_36 =>
obv (.of (ld1 h v_36) h) fun v_37 =>
obv (.of (lenL v_37) h) fun v_38 =>
obv (.of (aBin P .quo 3 (.tmp 43) (.tmp 48) v_33 v_38) h) fun v_39 =>
obv (.of (aBin P .add 3 (.tmp 39) (.tmp 49) v_29 v_39) h) fun v_40 =>
obv (.val v_40 h) fun k_41 =>
arb (.val (t 0) h) call fun v_42 h43 =>
arb (nckR v_42 h43) call fun v_44 h45 =>
arb (.of (fadR 1 v_44) h45) call fun v_46 h47 =>
arb (.of (ld1 h47 v_46) h47) call fun v_48 h49 =>
arb (.of (aBin P .add 3 (.tmp 54) (.const (.int .i64 1)) v_48 (.int .i64 1)) h49) call fun v_50 h51 =>
arb (nckR v_42 h51) call fun v_52 h53 =>
arb (.of (fadR 1 v_52) h53) call fun v_54 h55 =>
arb (stR 1 h55 v_54 v_50) call fun v_56 h57 =>
arb (.val k_41 h57) call fun v_58 h59 =>
arb (.val (t 1) h59) call fun v_60 h61 =>
arb (.call F_precentorhand_Pick [v_58, v_60] h61) call fun v_62 h63 =>
arb (.val v_62 h63) call fun v_64 h65 =>
k .ret (upd (upd (upd (upd (upd (upd (upd (upd (upd (upd (upd (upd (upd (upd (upd (upd (upd (upd (upd (upd (upd (upd (upd (upd (upd (upd (upd (upd (upd (upd (upd (upd (upd (upd (upd (upd (upd (upd (upd (upd (upd (upd (upd (upd (upd (upd (upd (upd (upd (upd (upd t 12 v_2) 13 v_3) 14 v_4) 15 v_5) 16 v_6) 17 v_7) 18 v_8) 19 v_9) 20 v_10) 21 v_11) 22 v_12) 23 v_13) 24 v_14) 25 v_15) 26 v_16) 27 v_17) 28 v_18) 29 v_19) 30 v_20) 31 v_21) 32 v_22) 33 v_23) 34 v_24) 35 v_25) 36 v_26) 37 v_27) 38 v_28) 39 v_29) 40 v_30) 41 v_31) 42 v_32) 43 v_33) 44 v_34) 45 v_35) 46 v_36) 47 v_37) 48 v_38) 49 v_39) 50 v_40) 5 k_41) 51 v_42) 52 v_44) 53 v_46) 54 v_48) 55 v_50) 56 v_52) 57 v_54) 58 v_58) 59 v_60) 60 v_62) 4 v_64) h65

def S_precentorhand_Feed_Next (P : Program) (call : FuncId → List AVal → Heap → Res AVal) (fuel : Nat) (f_a0 n_a1 : AVal) (h : Heap) : Res AVal :=
lt (retK P [.tmp 4]) fun k =>
arb (.val (.int .i64 0) h) call fun v_0 h1 =>
lt (sqK (J_precentorhand_Feed_Next_0 P call fuel k) k) fun k66 =>
arb (.val f_a0 h1) call fun v_67 h68 =>
arb (nckR v_67 h68) call fun v_69 h70 =>
arb (.of (fadR 0 v_69) h70) call fun v_71 h72 =>
arb (.of (ld1 h72 v_71) h72) call fun v_73 h74 =>
arb (.of (lenL v_73) h74) call fun v_75 h76 =>
arb (.of (aBin P .eql 3 (.tmp 10) (.const (.int .i64 0)) v_75 (.int .i64 0)) h76) call fun v_77 h78 =>
cb v_77 (
arb (.val (.int .i64 0) h78) call fun v_79 h80 =>
k66 .ret (upd (upd (upd (upd (upd (upd (upd (upd (enterT [f_a0, n_a1]) 4 v_0) 6 v_67) 7 v_69) 8 v_71) 9 v_73) 10 v_75) 11 v_77) 4 v_79) h80) (
k66 .normal (upd (upd (upd (upd (upd (upd (upd (enterT [f_a0, n_a1]) 4 v_0) 6 v_67) 7 v_69) 8 v_71) 9 v_73) 10 v_75) 11 v_77) h78)
theorem E_precentorhand_Feed_Next (call : FuncId → List AVal → Heap → Res AVal) (fuel : Nat) (f_a0 n_a1 : AVal) (h : Heap) : bodyR Try.prog call fuel Try.f18 [f_a0, n_a1] h = S_precentorhand_Feed_Next Try.prog call fuel f_a0 n_a1 h := by kernel_rfl
theorem R_precentorhand_Feed_Next {X : XTab} (f_a0 n_a1 : AVal) {h : Heap} {Q : AVal → Heap → Prop} (hx : X F_precentorhand_Feed_Next [f_a0, n_a1] = none) (q : Tells (fun m => S_precentorhand_Feed_Next Try.prog (acallX Try.prog X m) m f_a0 n_a1 h) Q) :
    Tells (fun m => acallX Try.prog X m F_precentorhand_Feed_Next [f_a0, n_a1] h) Q :=
  Tells.later (q.le fun m => (E_precentorhand_Feed_Next (acallX Try.prog X m) m f_a0 n_a1 h) ▸ acallX_le Try.func18 hx m h)

/-! ### precentor/precentorhand.Pick -/
def J_precentorhand_Pick_1 (P : Program) (call : FuncId → List AVal → Heap → Res AVal) (fuel : Nat) (k : Kn (AVal)) (t : T) (h : Heap) : Res (AVal) :=
arb (.val (t 5) h) call fun v_10 h11 =>
arb (.val v_10 h11) call fun v_12 h13 =>
k .ret (upd (upd t 16 v_10) 4 v_12) h13

def J_precentorhand_Pick_0 (P : Program) (call : FuncId → List AVal → Heap → Res AVal) (fuel : Nat) (k : Kn (AVal)) (t : T) (h : Heap) : Res (AVal) :=
arb (.val (t 0) h) call fun v_2 h3 =>
arb (.val (t 1) h3) call fun v_4 h5 =>
arb (.of (aBin P .rem 3 (.tmp 8) (.tmp 9) v_2 v_4) h5) call fun v_6 h7 =>
arb (.val v_6 h7) call fun k_8 h9 =>
lt (sqK (J_precentorhand_Pick_1 P call fuel k) k) fun k14 =>
arb (.val k_8 h9) call fun v_15 h16 =>
arb (.of (aBin P .lss 3 (.tmp 11) (.const (.int .i64 0)) v_15 (.int .i64 0)) h16) call fun v_17 h18 =>
cb v_17 (
arb (.val k_8 h18) call fun v_19 h20 =>
arb (.val (t 1) h20) call fun v_21 h22 =>
arb (.of (aBin P .add 3 (.tmp 13) (.tmp 14) v_19 v_21) h22) call fun v_23 h24 =>
arb (.val v_23 h24) call fun k_25 h26 =>
k14 .normal (upd (upd (upd (upd (upd (upd (upd (upd (upd (upd t 8 v_2) 9 v_4) 10 v_6) 5 k_8) 11 v_15) 12 v_17) 13 v_19) 14 v_21) 15 v_23) 5 k_25) h26) (
k14 .normal (upd (upd (upd (upd (upd (upd t 8 v_2) 9 v_4) 10 v_6) 5 k_8) 11 v_15) 12 v_17) h18)

def S_precentorhand_Pick (P : Program) (call : FuncId → List AVal → Heap → Res AVal) (fuel : Nat) (n_a0 m_a1 : AVal) (h : Heap) : Res AVal :=
lt (retK P [.tmp 4]) fun k =>
arb (.val (.int .i64 0) h) call fun v_0 h1 =>
lt (sqK (J_precentorhand_Pick_0 P call fuel k) k) fun k27 =>
arb (.val m_a1 h1) call fun v_28 h29 =>
arb (.of (aBin P .lss 3 (.tmp 6) (.const (.int .i64 1)) v_28 (.int .i64 1)) h29) call fun v_30 h31 =>
cb v_30 (
arb (.val (.int .i64 0) h31) call fun v_32 h33 =>
k27 .ret (upd (upd (upd (upd (enterT [n_a0, m_a1]) 4 v_0) 6 v_28) 7 v_30) 4 v_32) h33) (
k27 .normal (upd (upd (upd (enterT [n_a0, m_a1]) 4 v_0) 6 v_28) 7 v_30) h31)
theorem E_precentorhand_Pick (call : FuncId → List AVal → Heap → Res AVal) (fuel : Nat) (n_a0 m_a1 : AVal) (h : Heap) : bodyR Try.prog call fuel Try.f19 [n_a0, m_a1] h = S_precentorhand_Pick Try.prog call fuel n_a0 m_a1 h := by kernel_rfl
theorem R_precentorhand_Pick {X : XTab} (n_a0 m_a1 : AVal) {h : Heap} {Q : AVal → Heap → Prop} (hx : X F_precentorhand_Pick [n_a0, m_a1] = none) (q : Tells (fun m => S_precentorhand_Pick Try.prog (acallX Try.prog X m) m n_a0 m_a1 h) Q) :
    Tells (fun m => acallX Try.prog X m F_precentorhand_Pick [n_a0, m_a1] h) Q :=
  Tells.later (q.le fun m => (E_precentorhand_Pick (acallX Try.prog X m) m n_a0 m_a1 h) ▸ acallX_le Try.func19 hx m h)

/-! ### (*precentor/precentorhand.Feed).Filter -/
def J_precentorhand_Feed_Filter_0 (P : Program) (call : FuncId → List AVal → Heap → Res AVal) (fuel : Nat) (k : Kn (AVal)) (t : T) (h : Heap) : Res (AVal) :=
arb (.val (t 3) h) call fun v_4 h5 =>
arb (.val v_4 h5) call fun v_6 h7 =>
k .ret (upd (upd t 56 v_4) 2 v_6) h7

def J_precentorhand_Feed_Filter_3 (P : Program) (call : FuncId → List AVal → Heap → Res AVal) (fuel : Nat) (k : Kn (Ex × T)) (t : T) (h : Heap) : Res (Ex × T) :=
arb (.val (t 4) h) call fun v_16 h17 =>
arb (.of (aBin P .sub 3 (.tmp 17) (.const (.int .i64 1)) v_16 (.int .i64 1)) h17) call fun v_18 h19 =>
arb (.val v_18 h19) call fun n_20 h21 =>
k .normal (upd (upd (upd t 17 v_16) 18 v_18) 4 n_20) h21

def J_precentorhand_Feed_Filter_4 (P : Program) (call : FuncId → List AVal → Heap → Res AVal) (fuel : Nat) (k : Kn (Ex × T)) (t : T) (h : Heap) : Res (Ex × T) :=
arb (.val (t 3) h) call fun v_46 h47 =>
arb (.of (bldR [(.str (bs [])), (.int .i64 0), (.int .i64 0), (.int .i64 0), (.flt .f64 0), (.str (bs [])), (.bool false), (.int .i64 0), (.int .i64 0), (.flt .f64 0), (.str (bs [])), (.bool false), .nils] []) h47) call fun v_48 h49 =>
arb (bslR 13 [(.str (bs [])), (.int .i64 0), (.int .i64 0), (.int .i64 0), (.flt .f64 0), (.str (bs [])), (.bool false), (.int .i64 0), (.int .i64 0), (.flt .f64 0), (.str (bs [])), (.bool false), .nils] 1 h49 [(0, 13, v_48)]) call fun v_50 h51 =>
arb (appR 13 144 h51 v_46 v_50) call fun v_52 h53 =>
arb (.val v_52 h53) call fun l_54 h55 =>
obv (.val l_54 h55) fun v_56 =>
obv (.val (t 7) h55) fun v_58 =>
obv (.of (aBin P .add 3 (.tmp 45) (.const (.int .i64 1)) v_58 (.int .i64 1)) h55) fun v_60 =>
obv (.of (slcR 13 v_56 (some v_60) none none) h55) fun v_62 =>
obv (.val l_54 h55) fun v_64 =>
obv (.val (t 7) h55) fun v_66 =>
obv (.of (slcR 13 v_64 (some v_66) none none) h55) fun v_68 =>
arbE (cpyR 13 h55 v_62 v_68) call fun v_70 h71 => lt h71 fun g71 => ifb (true && true) <|
arb (.val l_54 g71) call fun v_72 h73 =>
arb (.val (t 7) h73) call fun v_74 h75 =>
arb (.of (ldn 13 h75 (t 6)) h75) call fun v_76 h77 =>
arb (.of (ixsR 13 v_72 v_74) h77) call fun v_78 h79 =>
arb (stR 13 h79 v_78 v_76) call fun v_80 h81 =>
k .normal (upd (upd (upd (upd (upd (upd (upd (upd (upd (upd (upd (upd (upd (upd (upd (upd (upd t 40 v_46) 41 v_48) 42 v_50) 43 v_52) 3 l_54) 44 v_56) 45 v_58) 46 v_60) 47 v_62) 48 v_64) 49 v_66) 50 v_68) 51 v_70) 52 v_72) 53 v_74) 54 v_76) 55 v_78) h81

def J_precentorhand_Feed_Filter_6 (P : Program) (call : FuncId → List AVal → Heap → Res AVal) (fuel : Nat) (k : Kn (Ex × T)) (t : T) (h : Heap) : Res (Ex × T) :=
lt (blkK 3 k) fun k84 =>
arb (.val (t 7) h) call fun v_85 h86 =>
arb (.of (aBin P .sub 3 (.tmp 38) (.const (.int .i64 1)) v_85 (.int .i64 1)) h86) call fun v_87 h88 =>
arb (.val v_87 h88) call fun at_89 h90 =>
k84 .normal (upd (upd (upd t 38 v_85) 39 v_87) 7 at_89) h90

def L_precentorhand_Feed_Filter_5 (P : Program) (call : FuncId → List AVal → Heap → Res AVal) (fuel : Nat) (t : T) (h : Heap) : Res (Ex × T) :=
lt okK fun k =>
lt (sqK (J_precentorhand_Feed_Filter_6 P call fuel k) k) fun k91 =>
arb (.val (t 7) h) call fun v_92 h93 =>
arb (.of (aBin P .gtr 3 (.tmp 26) (.const (.int .i64 0)) v_92 (.int .i64 0)) h93) call fun v_94 h95 =>
arb (.val v_94 h95) call fun v_96 h97 =>
gd (wantB v_96 true) (fun c => arb (.val (t 3) h97) call c) h97 fun v_98 h99 =>
gd (wantB v_96 true) (fun c => arb (.val (t 7) h99) call c) h99 fun v_100 h101 =>
gd (wantB v_96 true) (fun c => arb (.of (aBin P .sub 3 (.tmp 30) (.const (.int .i64 1)) v_100 (.int .i64 1)) h101) call c) h101 fun v_102 h103 =>
gd (wantB v_96 true) (fun c => arb (.of (ixsR 13 v_98 v_102) h103) call c) h103 fun v_104 h105 =>
gd (wantB v_96 true) (fun c => arb (.of (fadR 0 v_104) h105) call c) h105 fun v_106 h107 =>
gd (wantB v_96 true) (fun c => arb (.of (ld1 h107 v_106) h107) call c) h107 fun v_108 h109 =>
gd (wantB v_96 true) (fun c => arb (.val (t 5) h109) call c) h109 fun v_110 h111 =>
gd (wantB v_96 true) (fun c => arb (.of (aBin P .gtr 9 (.tmp 34) (.tmp 35) v_108 v_110) h111) call c) h111 fun v_112 h113 =>
arb (pkR v_96 v_112 (.bool false) h113) call fun v_114 h115 =>
cb v_114 (
k91 .normal (upd (upd (upd (upd (upd (upd (upd (upd (upd (upd (upd (upd t 26 v_92) 27 v_94) 28 v_96) 29 v_98) 30 v_100) 31 v_102) 32 v_104) 33 v_106) 34 v_108) 35 v_110) 36 v_112) 37 v_114) h115) (
k91 (.exit 2) (upd (upd (upd (upd (upd (upd (upd (upd (upd (upd (upd (upd t 26 v_92) 27 v_94) 28 v_96) 29 v_98) 30 v_100) 31 v_102) 32 v_104) 33 v_106) 34 v_108) 35 v_110) 36 v_112) 37 v_114) h115)

def J_precentorhand_Feed_Filter_2 (P : Program) (call : FuncId → List AVal → Heap → Res AVal) (fuel : Nat) (k : Kn (Ex × T)) (t : T) (h : Heap) : Res (Ex × T) :=
lt (sqK (J_precentorhand_Feed_Filter_3 P call fuel k) k) fun k22 =>
lt (blkK 1 k22) fun k23 =>
arb (.val (t 0) h) call fun v_24 h25 =>
arb (.call F_precentorhand_Feed_Name [v_24] h25) call fun v_26 h27 =>
arb (.val v_26 h27) call fun name_28 h29 =>
arb (.val (t 0) h29) call fun v_30 h31 =>
arb (.val name_28 h31) call fun v_32 h33 =>
arb (.call F_precentorhand_Feed_Pred [v_30, v_32] h33) call fun v_34 h35 =>
arb (newR [(.str (bs [])), (.int .i64 0), (.int .i64 0), (.int .i64 0), (.flt .f64 0), (.str (bs [])), (.bool false), (.int .i64 0), (.int .i64 0), (.flt .f64 0), (.str (bs [])), (.bool false), .nils] h35) call fun p_36 h37 =>
arb (stR 13 h37 p_36 v_34) call fun v_38 h39 =>
arb (.val (t 3) h39) call fun v_40 h41 =>
arb (.of (lenL v_40) h41) call fun v_42 h43 =>
arb (.val v_42 h43) call fun at_44 h45 =>
lt (sqK (J_precentorhand_Feed_Filter_4 P call fuel k23) k23) fun k82 =>
lt (blkK 2 k82) fun k83 =>
(loopN (L_precentorhand_Feed_Filter_5 P call fuel) fuel (upd (upd (upd (upd (upd (upd (upd (upd (upd (upd t 19 v_24) 20 v_26) 5 name_28) 21 v_30) 22 v_32) 23 v_34) 6 p_36) 24 v_40) 25 v_42) 7 at_44) h45).bind (lpK k83)

def L_precentorhand_Feed_Filter_1 (P : Program) (call : FuncId → List AVal → Heap → Res AVal) (fuel : Nat) (t : T) (h : Heap) : Res (Ex × T) :=
lt okK fun k =>
lt (sqK (J_precentorhand_Feed_Filter_2 P call fuel k) k) fun k116 =>
arb (.val (t 4) h) call fun v_117 h118 =>
arb (.of (aBin P .gtr 3 (.tmp 10) (.const (.int .i64 0)) v_117 (.int .i64 0)) h118) call fun v_119 h120 =>
arb (.val v_119 h120) call fun v_121 h122 =>
gd (wantB v_121 true) (fun c => arb (.val (t 3) h122) call c) h122 fun v_123 h124 =>
gd (wantB v_121 true) (fun c => arb (.of (lenL v_123) h124) call c) h124 fun v_125 h126 =>
gd (wantB v_121 true) (fun c => arb (.of (aBin P .lss 3 (.tmp 14) (.const (.int .i64 3)) v_125 (.int .i64 3)) h126) call c) h126 fun v_127 h128 =>
arb (pkR v_121 v_127 (.bool false) h128) call fun v_129 h130 =>
cb v_129 (
k116 .normal (upd (upd (upd (upd (upd (upd (upd t 10 v_117) 11 v_119) 12 v_121) 13 v_123) 14 v_125) 15 v_127) 16 v_129) h130) (
k116 (.exit 0) (upd (upd (upd (upd (upd (upd (upd t 10 v_117) 11 v_119) 12 v_121) 13 v_123) 14 v_125) 15 v_127) 16 v_129) h130)

def S_precentorhand_Feed_Filter (P : Program) (call : FuncId → List AVal → Heap → Res AVal) (fuel : Nat) (f_a0 : AVal) (h : Heap) : Res AVal :=
lt (retK P [.tmp 2]) fun k =>
arb (.val .nils h) call fun v_0 h1 =>
arb (.val .nils h1) call fun l_2 h3 =>
lt (sqK (J_precentorhand_Feed_Filter_0 P call fuel k) k) fun k8 =>
arb (.val f_a0 h3) call fun v_9 h10 =>
arb (.call F_precentorhand_Feed_Next [v_9, (.int .i64 4)] h10) call fun v_11 h12 =>
arb (.val v_11 h12) call fun n_13 h14 =>
lt (blkK 0 k8) fun k15 =>
(loopN (L_precentorhand_Feed_Filter_1 P call fuel) fuel (upd (upd (upd (upd (upd (enterT [f_a0]) 2 v_0) 3 l_2) 8 v_9) 9 v_11) 4 n_13) h14).bind (lpK k15)
theorem E_precentorhand_Feed_Filter (call : FuncId → List AVal → Heap → Res AVal) (fuel : Nat) (f_a0 : AVal) (h : Heap) : bodyR Try.prog call fuel Try.f21 [f_a0] h = S_precentorhand_Feed_Filter Try.prog call fuel f_a0 h := by kernel_rfl
theorem R_precentorhand_Feed_Filter {X : XTab} (f_a0 : AVal) {h : Heap} {Q : AVal → Heap → Prop} (hx : X F_precentorhand_Feed_Filter [f_a0] = none) (q : Tells (fun m => S_precentorhand_Feed_Filter Try.prog (acallX Try.prog X m) m f_a0 h) Q) :
    Tells (fun m => acallX Try.prog X m F_precentorhand_Feed_Filter [f_a0] h) Q :=
  Tells.later (q.le fun m => (E_precentorhand_Feed_Filter (acallX Try.prog X m) m f_a0 h) ▸ acallX_le Try.func21 hx m h)

/-! ### (*precentor/precentorhand.Feed).Attrs -/
def J_precentorhand_Feed_Attrs_0 (P : Program) (call : FuncId → List AVal → Heap → Res AVal) (fuel : Nat) (k : Kn (AVal)) (t : T) (h : Heap) : Res (AVal) :=
arb (.val (t 3) h) call fun v_10 h11 =>
arb (.val v_10 h11) call fun v_12 h13 =>
k .ret (upd (upd t 25 v_10) 2 v_12) h13

def J_precentorhand_Feed_Attrs_3 (P : Program) (call : FuncId → List AVal → Heap → Res AVal) (fuel : Nat) (k : Kn (Ex × T)) (t : T) (h : Heap) : Res (Ex × T) :=
arb (.val (t 5) h) call fun v_18 h19 =>
arb (.of (aBin P .add 3 (.tmp 9) (.const (.int .i64 1)) v_18 (.int .i64 1)) h19) call fun v_20 h21 =>
arb (.val v_20 h21) call fun i_22 h23 =>
k .normal (upd (upd (upd t 9 v_18) 10 v_20) 5 i_22) h23

def J_precentorhand_Feed_Attrs_2 (P : Program) (call : FuncId → List AVal → Heap → Res AVal) (fuel : Nat) (k : Kn (Ex × T)) (t : T) (h : Heap) : Res (Ex × T) :=
lt (sqK (J_precentorhand_Feed_Attrs_3 P call fuel k) k) fun k24 =>
lt (blkK 1 k24) fun k25 =>
arb (.val (t 0) h) call fun v_26 h27 =>
arb (.call F_precentorhand_Feed_Next [v_26, (.int .i64 3)] h27) call fun v_28 h29 =>
arb (.val (t 5) h29) call fun v_30 h31 =>
arb (.of (aBin P .quo 3 (.tmp 13) (.const (.int .i64 3)) v_30 (.int .i64 3)) h31) call fun v_32 h33 =>
arb (.of (aBin P .gtr 3 (.tmp 12) (.tmp 14) v_28 v_32) h33) call fun v_34 h35 =>
cb v_34 (
obv (.val (t 3) h35) fun v_36 =>
obv (.val (t 5) h35) fun v_38 =>
obv (.of (ixpR 5 1 (t 4) v_38) h35) fun v_40 =>
obv (.of (ld1 h35 v_40) h35) fun v_42 => ifb true <|
obv (.val (t 0) h35) fun v_44 =>
arbE (.call F_precentorhand_Feed_Value [v_44] h35) call fun v_46 h47 => lt h47 fun g47 => ifb (true && (isV v_42 (arVal (.of (ld1 g47 v_40) g47)) && true)) <|
obv (.of (bldR [(.str (bs [])), (.int .i64 0), (.int .i64 0), (.flt .f64 0), (.str (bs [])), (.bool false)] [(0, 1, v_42), (1, 5, v_46)]) g47) fun v_48 =>
arbV (bslR 6 [(.str (bs [])), (.int .i64 0), (.int .i64 0), (.flt .f64 0), (.str (bs [])), (.bool false)] 1 g47 [(0, 6, v_48)]) fun v_50 h51 =>
arbE (appR 6 64 h51 v_36 v_50) call fun v_52 h53 => lt h53 fun g53 => ifb (true && true) <|
obv (.val v_52 g53) fun l_54 =>
k25 .normal (upd (upd (upd (upd (upd (upd (upd (upd (upd (upd (upd (upd (upd (upd (upd t 11 v_26) 12 v_28) 13 v_30) 14 v_32) 15 v_34) 16 v_36) 17 v_38) 18 v_40) 19 v_42) 20 v_44) 21 v_46) 22 v_48) 23 v_50) 24 v_52) 3 l_54) g53) (
k25 .normal (upd (upd (upd (upd (upd t 11 v_26) 12 v_28) 13 v_30) 14 v_32) 15 v_34) h35)

def L_precentorhand_Feed_Attrs_1 (P : Program) (call : FuncId → List AVal → Heap → Res AVal) (fuel : Nat) (t : T) (h : Heap) : Res (Ex × T) :=
lt okK fun k =>
lt (sqK (J_precentorhand_Feed_Attrs_2 P call fuel k) k) fun k56 =>
arb (.val (t 5) h) call fun v_57 h58 =>
arb (.of (aBin P .lss 3 (.tmp 7) (.const (.int .i64 5)) v_57 (.int .i64 5)) h58) call fun v_59 h60 =>
cb v_59 (
k56 .normal (upd (upd t 7 v_57) 8 v_59) h60) (
k56 (.exit 0) (upd (upd t 7 v_57) 8 v_59) h60)

def S_precentorhand_Feed_Attrs (P : Program) (call : FuncId → List AVal → Heap → Res AVal) (fuel : Nat) (f_a0 : AVal) (h : Heap) : Res AVal :=
lt (retK P [.tmp 2]) fun k =>
arb (.val .nils h) call fun v_0 h1 =>
arb (.val .nils h1) call fun l_2 h3 =>
arb (.of (bldR [(.str (bs [])), (.str (bs [])), (.str (bs [])), (.str (bs [])), (.str (bs []))] [(0, 1, (.str (bs [97]))), (1, 1, (.str (bs [98]))), (2, 1, (.str (bs [99]))), (3, 1, (.str (bs [100]))), (4, 1, (.str (bs [108, 111, 110, 103])))]) h3) call fun v_4 h5 =>
arb (newR [(.str (bs [])), (.str (bs [])), (.str (bs [])), (.str (bs [])), (.str (bs []))] h5) call fun names_6 h7 =>
arb (stR 5 h7 names_6 v_4) call fun v_8 h9 =>
lt (sqK (J_precentorhand_Feed_Attrs_0 P call fuel k) k) fun k14 =>
arb (.val (.int .i64 0) h9) call fun i_15 h16 =>
lt (blkK 0 k14) fun k17 =>
(loopN (L_precentorhand_Feed_Attrs_1 P call fuel) fuel (upd (upd (upd (upd (upd (enterT [f_a0]) 2 v_0) 3 l_2) 6 v_4) 4 names_6) 5 i_15) h16).bind (lpK k17)
theorem E_precentorhand_Feed_Attrs (call : FuncId → List AVal → Heap → Res AVal) (fuel : Nat) (f_a0 : AVal) (h : Heap) : bodyR Try.prog call fuel Try.f27 [f_a0] h = S_precentorhand_Feed_Attrs Try.prog call fuel f_a0 h := by kernel_rfl
theorem R_precentorhand_Feed_Attrs {X : XTab} (f_a0 : AVal) {h : Heap} {Q : AVal → Heap → Prop} (hx : X F_precentorhand_Feed_Attrs [f_a0] = none) (q : Tells (fun m => S_precentorhand_Feed_Attrs Try.prog (acallX Try.prog X m) m f_a0 h) Q) :
    Tells (fun m => acallX Try.prog X m F_precentorhand_Feed_Attrs [f_a0] h) Q :=
  Tells.later (q.le fun m => (E_precentorhand_Feed_Attrs (acallX Try.prog X m) m f_a0 h) ▸ acallX_le Try.func27 hx m h)

/-! ### (*precentor/precentorhand.Feed).Name -/

def S_precentorhand_Feed_Name (P : Program) (call : FuncId → List AVal → Heap → Res AVal) (fuel : Nat) (f_a0 : AVal) (h : Heap) : Res AVal :=
lt (retK P [.tmp 2]) fun k =>
arb (.val (.str (bs [])) h) call fun v_0 h1 =>
arb (.of (bldR [(.str (bs [])), (.str (bs [])), (.str (bs [])), (.str (bs []))] [(0, 1, (.str (bs [97]))), (1, 1, (.str (bs [98]))), (2, 1, (.str (bs [99]))), (3, 1, (.str (bs [108, 111, 110, 103])))]) h1) call fun v_2 h3 =>
arb (.val f_a0 h3) call fun v_4 h5 =>
arb (.call F_precentorhand_Feed_Next [v_4, (.int .i64 12)] h5) call fun v_6 h7 =>
arb (.of (aBin P .quo 3 (.tmp 5) (.const (.int .i64 3)) v_6 (.int .i64 3)) h7) call fun v_8 h9 =>
arb (.of (aBin P .rem 3 (.tmp 6) (.const (.int .i64 4)) v_8 (.int .i64 4)) h9) call fun v_10 h11 =>
arb (.of (ixa1 4 1 v_2 v_10) h11) call fun v_12 h13 =>
arb (.val v_12 h13) call fun v_14 h15 =>
k .ret (upd (upd (upd (upd (upd (upd (upd (upd (enterT [f_a0]) 2 v_0) 3 v_2) 4 v_4) 5 v_6) 6 v_8) 7 v_10) 8 v_12) 2 v_14) h15
theorem E_precentorhand_Feed_Name (call : FuncId → List AVal → Heap → Res AVal) (fuel : Nat) (f_a0 : AVal) (h : Heap) : bodyR Try.prog call fuel Try.f39 [f_a0] h = S_precentorhand_Feed_Name Try.prog call fuel f_a0 h := by kernel_rfl
theorem R_precentorhand_Feed_Name {X : XTab} (f_a0 : AVal) {h : Heap} {Q : AVal → Heap → Prop} (hx : X F_precentorhand_Feed_Name [f_a0] = none) (q : Tells (fun m => S_precentorhand_Feed_Name Try.prog (acallX Try.prog X m) m f_a0 h) Q) :
    Tells (fun m => acallX Try.prog X m F_precentorhand_Feed_Name [f_a0] h) Q :=
  Tells.later (q.le fun m => (E_precentorhand_Feed_Name (acallX Try.prog X m) m f_a0 h) ▸ acallX_le Try.func39 hx m h)

/-! ### (*precentor/precentorhand.Feed).Pred -/
def J_precentorhand_Feed_Pred_1 (P : Program) (call : FuncId → List AVal → Heap → Res AVal) (fuel : Nat) (k : Kn (AVal)) (t : T) (h : Heap) : Res (AVal) :=
arb (.of (ldn 13 h (t 5)) h) call fun v_24 h25 =>
arb (stR 13 h25 (t 4) v_24) call fun v_26 h27 =>
k .ret (upd t 51 v_24) h27

def J_precentorhand_Feed_Pred_0 (P : Program) (call : FuncId → List AVal → Heap → Res AVal) (fuel : Nat) (k : Kn (AVal)) (t : T) (h : Heap) : Res (AVal) :=
arb (.val (t 0) h) call fun v_16 h17 =>
arb (.call F_precentorhand_Feed_Value [v_16] h17) call fun v_18 h19 =>
arb (.of (fadR 2 (t 5)) h19) call fun v_20 h21 =>
arb (stR 5 h21 v_20 v_18) call fun v_22 h23 =>
lt (sqK (J_precentorhand_Feed_Pred_1 P call fuel k) k) fun k28 =>
arb (.of (fadR 1 (t 5)) h23) call fun v_29 h30 =>
arb (.of (ld1 h30 v_29) h30) call fun v_31 h32 =>
arb (.of (aBin P .eql 3 (.tmp 46) (.const (.int .i64 8)) v_31 (.int .i64 8)) h32) call fun v_33 h34 =>
cb v_33 (
arb (.val (t 0) h34) call fun v_35 h36 =>
arb (.call F_precentorhand_Feed_Value [v_35] h36) call fun v_37 h38 =>
arb (.of (fadR 7 (t 5)) h38) call fun v_39 h40 =>
arb (stR 5 h40 v_39 v_37) call fun v_41 h42 =>
k28 .normal (upd (upd (upd (upd (upd (upd (upd (upd (upd t 42 v_16) 43 v_18) 44 v_20) 45 v_29) 46 v_31) 47 v_33) 48 v_35) 49 v_37) 50 v_39) h42) (
k28 .normal (upd (upd (upd (upd (upd (upd t 42 v_16) 43 v_18) 44 v_20) 45 v_29) 46 v_31) 47 v_33) h34)

def J_precentorhand_Feed_Pred_2 (P : Program) (call : FuncId → List AVal → Heap → Res AVal) (fuel : Nat) (k : Kn (AVal)) (t : T) (h : Heap) : Res (AVal) :=
arb (.of (ldn 13 h (t 5)) h) call fun v_83 h84 =>
arb (stR 13 h84 (t 4) v_83) call fun v_85 h86 =>
k .ret (upd t 41 v_83) h86

def J_precentorhand_Feed_Pred_5 (P : Program) (call : FuncId → List AVal → Heap → Res AVal) (fuel : Nat) (k : Kn (Ex × T)) (t : T) (h : Heap) : Res (Ex × T) :=
arb (.val (t 6) h) call fun v_95 h96 =>
arb (.of (aBin P .sub 3 (.tmp 32) (.const (.int .i64 1)) v_95 (.int .i64 1)) h96) call fun v_97 h98 =>
arb (.val v_97 h98) call fun n_99 h100 =>
k .normal (upd (upd (upd t 32 v_95) 33 v_97) 6 n_99) h100

def J_precentorhand_Feed_Pred_4 (P : Program) (call : FuncId → List AVal → Heap → Res AVal) (fuel : Nat) (k : Kn (Ex × T)) (t : T) (h : Heap) : Res (Ex × T) :=
lt (sqK (J_precentorhand_Feed_Pred_5 P call fuel k) k) fun k101 =>
lt (blkK 2 k101) fun k102 =>
obv (.of (fadR 12 (t 5)) h) fun v_103 =>
obv (.of (ld1 h v_103) h) fun v_105 => ifb true <|
obv (.val (t 0) h) fun v_107 =>
arbE (.call F_precentorhand_Feed_Value [v_107] h) call fun v_109 h110 => lt h110 fun g110 => ifb (true && (isV v_105 (arVal (.of (ld1 g110 v_103) g110)) && true)) <|
arbV (bslR 5 [(.int .i64 0), (.int .i64 0), (.flt .f64 0), (.str (bs [])), (.bool false)] 1 g110 [(0, 5, v_109)]) fun v_111 h112 =>
arbE (appR 5 48 h112 v_105 v_111) call fun v_113 h114 => lt h114 fun g114 => ifb (true && true) <|
obv (.of (fadR 12 (t 5)) g114) fun v_115 =>
arbE (stR 1 g114 v_115 v_113) call fun v_117 h118 => lt h118 fun g118 => ifb (true && true) <|
k102 .normal (upd (upd (upd (upd (upd (upd (upd t 34 v_103) 35 v_105) 36 v_107) 37 v_109) 38 v_111) 39 v_113) 40 v_115) g118

def L_precentorhand_Feed_Pred_3 (P : Program) (call : FuncId → List AVal → Heap → Res AVal) (fuel : Nat) (t : T) (h : Heap) : Res (Ex × T) :=
lt okK fun k =>
lt (sqK (J_precentorhand_Feed_Pred_4 P call fuel k) k) fun k119 =>
arb (.val (t 6) h) call fun v_120 h121 =>
arb (.of (aBin P .geq 3 (.tmp 30) (.const (.int .i64 0)) v_120 (.int .i64 0)) h121) call fun v_122 h123 =>
cb v_122 (
k119 .normal (upd (upd t 30 v_120) 31 v_122) h123) (
k119 (.exit 1) (upd (upd t 30 v_120) 31 v_122) h123)

theorem C_precentorhand_Feed_Pred_0 (h : Heap) (a : AVal) : aLoad Try.prog h 38 a = ldn 13 h a := by kernel_rfl
def S_precentorhand_Feed_Pred (P : Program) (call : FuncId → List AVal → Heap → Res AVal) (fuel : Nat) (f_a0 name_a1 : AVal) (h : Heap) : Res AVal :=
lt (retK P [.cell 4 38]) fun k =>
arb (newR [(.str (bs [])), (.int .i64 0), (.int .i64 0), (.int .i64 0), (.flt .f64 0), (.str (bs [])), (.bool false), (.int .i64 0), (.int .i64 0), (.flt .f64 0), (.str (bs [])), (.bool false), .nils] h) call fun v_0 h1 =>
arb (.val name_a1 h1) call fun v_2 h3 =>
arb (.val f_a0 h3) call fun v_4 h5 =>
arb (.call F_precentorhand_Feed_Next [v_4, (.int .i64 10)] h5) call fun v_6 h7 =>
arb (.of (aBin P .add 3 (.const (.int .i64 1)) (.tmp 9) (.int .i64 1) v_6) h7) call fun v_8 h9 =>
arb (.of (bldR [(.str (bs [])), (.int .i64 0), (.int .i64 0), (.int .i64 0), (.flt .f64 0), (.str (bs [])), (.bool false), (.int .i64 0), (.int .i64 0), (.flt .f64 0), (.str (bs [])), (.bool false), .nils] [(0, 1, v_2), (1, 1, v_8)]) h9) call fun v_10 h11 =>
arb (newR [(.str (bs [])), (.int .i64 0), (.int .i64 0), (.int .i64 0), (.flt .f64 0), (.str (bs [])), (.bool false), (.int .i64 0), (.int .i64 0), (.flt .f64 0), (.str (bs [])), (.bool false), .nils] h11) call fun p_12 h13 =>
arb (stR 13 h13 p_12 v_10) call fun v_14 h15 =>
lt (sqK (J_precentorhand_Feed_Pred_0 P call fuel k) k) fun k43 =>
arb (.of (fadR 1 p_12) h15) call fun v_44 h45 =>
arb (.of (ld1 h45 v_44) h45) call fun v_46 h47 =>
lt (blkK 0 k43) fun k48 =>
arb (.of (aBin P .eql 3 (.tmp 13) (.const (.int .i64 1)) v_46 (.int .i64 1)) h47) call fun v_49 h50 =>
arb (.val v_49 h50) call fun v_51 h52 =>
cb v_51 (
arb (.of (ldn 13 h52 p_12) h52) call fun v_53 h54 =>
arb (stR 13 h54 v_0 v_53) call fun v_55 h56 =>
k48 .ret (upd (upd (upd (upd (upd (upd (upd (upd (upd (upd (upd (upd (enterT [f_a0, name_a1]) 4 v_0) 7 v_2) 8 v_4) 9 v_6) 10 v_8) 11 v_10) 5 p_12) 12 v_44) 13 v_46) 15 v_49) 14 v_51) 16 v_53) h56) (
arb (.of (aBin P .eql 3 (.tmp 13) (.const (.int .i64 9)) v_46 (.int .i64 9)) h52) call fun v_57 h58 =>
arb (.val v_57 h58) call fun v_59 h60 =>
cb v_59 (
arb (.of (bldR [(.str (bs [])), (.str (bs [])), (.str (bs [])), (.str (bs []))] [(0, 1, (.str (bs []))), (1, 1, (.str (bs [97]))), (2, 1, (.str (bs [98]))), (3, 1, (.str (bs [97, 98])))]) h60) call fun v_61 h62 =>
arb (.val f_a0 h62) call fun v_63 h64 =>
arb (.call F_precentorhand_Feed_Next [v_63, (.int .i64 4)] h64) call fun v_65 h66 =>
arb (.of (ixa1 4 1 v_61 v_65) h66) call fun v_67 h68 =>
arb (.of (bldR [(.int .i64 0), (.int .i64 0), (.flt .f64 0), (.str (bs [])), (.bool false)] [(0, 1, (.int .i64 3)), (3, 1, v_67)]) h68) call fun v_69 h70 =>
arb (.of (fadR 2 p_12) h70) call fun v_71 h72 =>
arb (stR 5 h72 v_71 v_69) call fun v_73 h74 =>
arb (.of (ldn 13 h74 p_12) h74) call fun v_75 h76 =>
arb (stR 13 h76 v_0 v_75) call fun v_77 h78 =>
k48 .ret (upd (upd (upd (upd (upd (upd (upd (upd (upd (upd (upd (upd (upd (upd (upd (upd (upd (upd (upd (upd (enterT [f_a0, name_a1]) 4 v_0) 7 v_2) 8 v_4) 9 v_6) 10 v_8) 11 v_10) 5 p_12) 12 v_44) 13 v_46) 15 v_49) 14 v_51) 18 v_57) 17 v_59) 19 v_61) 20 v_63) 21 v_65) 22 v_67) 23 v_69) 24 v_71) 25 v_75) h78) (
arb (.of (aBin P .eql 3 (.tmp 13) (.const (.int .i64 10)) v_46 (.int .i64 10)) h60) call fun v_79 h80 =>
arb (.val v_79 h80) call fun v_81 h82 =>
cb v_81 (
lt (sqK (J_precentorhand_Feed_Pred_2 P call fuel k48) k48) fun k87 =>
arb (.val f_a0 h82) call fun v_88 h89 =>
arb (.call F_precentorhand_Feed_Next [v_88, (.int .i64 4)] h89) call fun v_90 h91 =>
arb (.val v_90 h91) call fun n_92 h93 =>
lt (blkK 1 k87) fun k94 =>
(loopN (L_precentorhand_Feed_Pred_3 P call fuel) fuel (upd (upd (upd (upd (upd (upd (upd (upd (upd (upd (upd (upd (upd (upd (upd (upd (upd (upd (enterT [f_a0, name_a1]) 4 v_0) 7 v_2) 8 v_4) 9 v_6) 10 v_8) 11 v_10) 5 p_12) 12 v_44) 13 v_46) 15 v_49) 14 v_51) 18 v_57) 17 v_59) 27 v_79) 26 v_81) 28 v_88) 29 v_90) 6 n_92) h93).bind (lpK k94)) (
k48 .normal (upd (upd (upd (upd (upd (upd (upd (upd (upd (upd (upd (upd (upd (upd (upd (enterT [f_a0, name_a1]) 4 v_0) 7 v_2) 8 v_4) 9 v_6) 10 v_8) 11 v_10) 5 p_12) 12 v_44) 13 v_46) 15 v_49) 14 v_51) 18 v_57) 17 v_59) 27 v_79) 26 v_81) h82)))
theorem E_precentorhand_Feed_Pred (call : FuncId → List AVal → Heap → Res AVal) (fuel : Nat) (f_a0 name_a1 : AVal) (h : Heap) : bodyR Try.prog call fuel Try.f40 [f_a0, name_a1] h = S_precentorhand_Feed_Pred Try.prog call fuel f_a0 name_a1 h := by kernel_rfl
theorem R_precentorhand_Feed_Pred {X : XTab} (f_a0 name_a1 : AVal) {h : Heap} {Q : AVal → Heap → Prop} (hx : X F_precentorhand_Feed_Pred [f_a0, name_a1] = none) (q : Tells (fun m => S_precentorhand_Feed_Pred Try.prog (acallX Try.prog X m) m f_a0 name_a1 h) Q) :
    Tells (fun m => acallX Try.prog X m F_precentorhand_Feed_Pred [f_a0, name_a1] h) Q :=
  Tells.later (q.le fun m => (E_precentorhand_Feed_Pred (acallX Try.prog X m) m f_a0 name_a1 h) ▸ acallX_le Try.func40 hx m h)

/-! ### (*precentor/precentorhand.Feed).Value -/
def J_precentorhand_Feed_Value_0 (P : Program) (call : FuncId → List AVal → Heap → Res AVal) (fuel : Nat) (k : Kn (AVal)) (t : T) (h : Heap) : Res (AVal) :=
arb (.val (t 0) h) call fun v_2 h3 =>
arb (.call F_precentorhand_Feed_Next [v_2, (.int .i64 5)] h3) call fun v_4 h5 =>
arb (.of (bldR [(.int .i64 0), (.int .i64 0), (.flt .f64 0), (.str (bs [])), (.bool false)] [(0, 1, (.int .i64 1)), (1, 1, v_4)]) h5) call fun v_6 h7 =>
arb (stR 5 h7 (t 2) v_6) call fun v_8 h9 =>
k .ret (upd (upd (upd t 35 v_2) 36 v_4) 37 v_6) h9

def J_precentorhand_Feed_Value_1 (P : Program) (call : FuncId → List AVal → Heap → Res AVal) (fuel : Nat) (k : Kn (AVal)) (t : T) (h : Heap) : Res (AVal) :=
cb (t 7) (
arb (.val (t 0) h) call fun v_16 h17 =>
arb (.call F_precentorhand_Feed_Float [v_16] h17) call fun v_18 h19 =>
arb (.of (bldR [(.int .i64 0), (.int .i64 0), (.flt .f64 0), (.str (bs [])), (.bool false)] [(0, 1, (.int .i64 2)), (2, 1, v_18)]) h19) call fun v_20 h21 =>
arb (stR 5 h21 (t 2) v_20) call fun v_22 h23 =>
k .ret (upd (upd (upd t 10 v_16) 11 v_18) 12 v_20) h23) (
arb (.of (aBin P .eql 3 (.tmp 6) (.const (.int .i64 2)) (t 6) (.int .i64 2)) h) call fun v_24 h25 =>
arb (.val v_24 h25) call fun v_26 h27 =>
cb v_26 (
arb (.of (bldR [(.str (bs [])), (.str (bs [])), (.str (bs [])), (.str (bs [])), (.str (bs [])), (.str (bs []))] [(0, 1, (.str (bs []))), (1, 1, (.str (bs [97]))), (2, 1, (.str (bs [97, 98]))), (3, 1, (.str (bs [98]))), (4, 1, (.str (bs [98, 97]))), (5, 1, (.str (bs [116, 119, 101, 108, 118, 101, 32, 98, 121, 116, 101, 115])))]) h27) call fun v_28 h29 =>
arb (newR [(.str (bs [])), (.str (bs [])), (.str (bs [])), (.str (bs [])), (.str (bs [])), (.str (bs []))] h29) call fun l_30 h31 =>
arb (stR 6 h31 l_30 v_28) call fun v_32 h33 =>
arb (.val (t 0) h33) call fun v_34 h35 =>
arb (.call F_precentorhand_Feed_Next [v_34, (.int .i64 6)] h35) call fun v_36 h37 =>
arb (.of (ixpR 6 1 l_30 v_36) h37) call fun v_38 h39 =>
arb (.of (ld1 h39 v_38) h39) call fun v_40 h41 =>
arb (.of (bldR [(.int .i64 0), (.int .i64 0), (.flt .f64 0), (.str (bs [])), (.bool false)] [(0, 1, (.int .i64 3)), (3, 1, v_40)]) h41) call fun v_42 h43 =>
arb (stR 5 h43 (t 2) v_42) call fun v_44 h45 =>
k .ret (upd (upd (upd (upd (upd (upd (upd (upd (upd t 14 v_24) 13 v_26) 15 v_28) 3 l_30) 16 v_34) 17 v_36) 18 v_38) 19 v_40) 20 v_42) h45) (
arb (.of (aBin P .eql 3 (.tmp 6) (.const (.int .i64 3)) (t 6) (.int .i64 3)) h27) call fun v_46 h47 =>
arb (.val v_46 h47) call fun v_48 h49 =>
cb v_48 (
arb (.val (t 0) h49) call fun v_50 h51 =>
arb (.call F_precentorhand_Feed_Next [v_50, (.int .i64 2)] h51) call fun v_52 h53 =>
arb (.of (aBin P .eql 3 (.tmp 24) (.const (.int .i64 1)) v_52 (.int .i64 1)) h53) call fun v_54 h55 =>
arb (.of (bldR [(.int .i64 0), (.int .i64 0), (.flt .f64 0), (.str (bs [])), (.bool false)] [(0, 1, (.int .i64 4)), (4, 1, v_54)]) h55) call fun v_56 h57 =>
arb (stR 5 h57 (t 2) v_56) call fun v_58 h59 =>
k .ret (upd (upd (upd (upd (upd (upd (upd (upd t 14 v_24) 13 v_26) 22 v_46) 21 v_48) 23 v_50) 24 v_52) 25 v_54) 26 v_56) h59) (
arb (.of (aBin P .eql 3 (.tmp 6) (.const (.int .i64 4)) (t 6) (.int .i64 4)) h49) call fun v_60 h61 =>
arb (.val v_60 h61) call fun v_62 h63 =>
cb v_62 (
arb (.of (bldR [(.int .i64 0), (.int .i64 0), (.int .i64 0), (.int .i64 0), (.int .i64 0), (.int .i64 0)] [(0, 1, (.int .i64 (-9223372036854775808))), (1, 1, (.int .i64 9223372036854775807)), (2, 1, (.int .i64 9007199254740992)), (3, 1, (.int .i64 9007199254740993)), (4, 1, (.int .i64 (-1))), (5, 1, (.int .i64 4611686018427387904))]) h63) call fun v_64 h65 =>
arb (newR [(.int .i64 0), (.int .i64 0), (.int .i64 0), (.int .i64 0), (.int .i64 0), (.int .i64 0)] h65) call fun l_66 h67 =>
arb (stR 6 h67 l_66 v_64) call fun v_68 h69 =>
arb (.val (t 0) h69) call fun v_70 h71 =>
arb (.call F_precentorhand_Feed_Next [v_70, (.int .i64 6)] h71) call fun v_72 h73 =>
arb (.of (ixpR 6 1 l_66 v_72) h73) call fun v_74 h75 =>
arb (.of (ld1 h75 v_74) h75) call fun v_76 h77 =>
arb (.of (bldR [(.int .i64 0), (.int .i64 0), (.flt .f64 0), (.str (bs [])), (.bool false)] [(0, 1, (.int .i64 1)), (1, 1, v_76)]) h77) call fun v_78 h79 =>
arb (stR 5 h79 (t 2) v_78) call fun v_80 h81 =>
k .ret (upd (upd (upd (upd (upd (upd (upd (upd (upd (upd (upd (upd (upd t 14 v_24) 13 v_26) 22 v_46) 21 v_48) 28 v_60) 27 v_62) 29 v_64) 4 l_66) 30 v_70) 31 v_72) 32 v_74) 33 v_76) 34 v_78) h81) (
k .normal (upd (upd (upd (upd (upd (upd t 14 v_24) 13 v_26) 22 v_46) 21 v_48) 28 v_60) 27 v_62) h63))))

theorem C_precentorhand_Feed_Value_0 (h : Heap) (a : AVal) : aLoad Try.prog h 35 a = ldn 5 h a := by kernel_rfl
def S_precentorhand_Feed_Value (P : Program) (call : FuncId → List AVal → Heap → Res AVal) (fuel : Nat) (f_a0 : AVal) (h : Heap) : Res AVal :=
lt (retK P [.cell 2 35]) fun k =>
arb (newR [(.int .i64 0), (.int .i64 0), (.flt .f64 0), (.str (bs [])), (.bool false)] h) call fun v_0 h1 =>
lt (sqK (J_precentorhand_Feed_Value_0 P call fuel k) k) fun k10 =>
arb (.val f_a0 h1) call fun v_11 h12 =>
arb (.call F_precentorhand_Feed_Next [v_11, (.int .i64 8)] h12) call fun v_13 h14 =>
lt (blkK 0 k10) fun k15 =>
lt (sqK (J_precentorhand_Feed_Value_1 P call fuel k15) k15) fun k82 =>
arb (.of (aBin P .eql 3 (.tmp 6) (.const (.int .i64 0)) v_13 (.int .i64 0)) h14) call fun v_83 h84 =>
arb (.val v_83 h84) call fun v_85 h86 =>
cb v_85 (
k82 .normal (upd (upd (upd (upd (upd (enterT [f_a0]) 2 v_0) 5 v_11) 6 v_13) 8 v_83) 7 v_85) h86) (
arb (.of (aBin P .eql 3 (.tmp 6) (.const (.int .i64 1)) v_13 (.int .i64 1)) h86) call fun v_87 h88 =>
arb (.val v_87 h88) call fun v_89 h90 =>
k82 .normal (upd (upd (upd (upd (upd (upd (upd (enterT [f_a0]) 2 v_0) 5 v_11) 6 v_13) 8 v_83) 7 v_85) 9 v_87) 7 v_89) h90)
theorem E_precentorhand_Feed_Value (call : FuncId → List AVal → Heap → Res AVal) (fuel : Nat) (f_a0 : AVal) (h : Heap) : bodyR Try.prog call fuel Try.f45 [f_a0] h = S_precentorhand_Feed_Value Try.prog call fuel f_a0 h := by kernel_rfl
theorem R_precentorhand_Feed_Value {X : XTab} (f_a0 : AVal) {h : Heap} {Q : AVal → Heap → Prop} (hx : X F_precentorhand_Feed_Value [f_a0] = none) (q : Tells (fun m => S_precentorhand_Feed_Value Try.prog (acallX Try.prog X m) m f_a0 h) Q) :
    Tells (fun m => acallX Try.prog X m F_precentorhand_Feed_Value [f_a0] h) Q :=
  Tells.later (q.le fun m => (E_precentorhand_Feed_Value (acallX Try.prog X m) m f_a0 h) ▸ acallX_le Try.func45 hx m h)

/-! ### (*precentor/precentorhand.Feed).Float -/

def S_precentorhand_Feed_Float (P : Program) (call : FuncId → List AVal → Heap → Res AVal) (fuel : Nat) (f_a0 : AVal) (h : Heap) : Res AVal :=
lt (retK P [.tmp 2]) fun k =>
arb (.val (.flt .f64 0) h) call fun v_0 h1 =>
arb (.call F_math_Copysign [(.flt .f64 0), (.flt .f64 13830554455654793216)] h1) call fun v_2 h3 =>
arb (.call F_math_NaN [] h3) call fun v_4 h5 =>
arb (.call F_math_Inf [(.int .i64 1)] h5) call fun v_6 h7 =>
arb (.call F_math_Inf [(.int .i64 (-1))] h7) call fun v_8 h9 =>
arb (.of (bldR [(.flt .f64 0), (.flt .f64 0), (.flt .f64 0), (.flt .f64 0), (.flt .f64 0), (.flt .f64 0), (.flt .f64 0), (.flt .f64 0), (.flt .f64 0), (.flt .f64 0), (.flt .f64 0), (.flt .f64 0), (.flt .f64 0), (.flt .f64 0)] [(0, 1, (.flt .f64 0)), (1, 1, v_2), (2, 1, (.flt .f64 4607182418800017408)), (3, 1, (.flt .f64 4609434218613702656)), (4, 1, (.flt .f64 4611686018427387904)), (5, 1, (.flt .f64 4613937818241073152)), (6, 1, (.flt .f64 13830554455654793216)), (7, 1, (.flt .f64 4591870180066957722)), (8, 1, v_4), (9, 1, v_6), (10, 1, v_8), (11, 1, (.flt .f64 4845873199050653696)), (12, 1, (.flt .f64 4890909195324358656)), (13, 1, (.flt .f64 1))]) h9) call fun v_10 h11 =>
arb (newR [(.flt .f64 0), (.flt .f64 0), (.flt .f64 0), (.flt .f64 0), (.flt .f64 0), (.flt .f64 0), (.flt .f64 0), (.flt .f64 0), (.flt .f64 0), (.flt .f64 0), (.flt .f64 0), (.flt .f64 0), (.flt .f64 0), (.flt .f64 0)] h11) call fun l_12 h13 =>
arb (stR 14 h13 l_12 v_10) call fun v_14 h15 =>
arb (.val f_a0 h15) call fun v_16 h17 =>
arb (.call F_precentorhand_Feed_Next [v_16, (.int .i64 14)] h17) call fun v_18 h19 =>
arb (.of (ixpR 14 1 l_12 v_18) h19) call fun v_20 h21 =>
arb (.of (ld1 h21 v_20) h21) call fun v_22 h23 =>
arb (.val v_22 h23) call fun v_24 h25 =>
k .ret (upd (upd (upd (upd (upd (upd (upd (upd (upd (upd (upd (upd (enterT [f_a0]) 2 v_0) 4 v_2) 5 v_4) 6 v_6) 7 v_8) 8 v_10) 3 l_12) 9 v_16) 10 v_18) 11 v_20) 12 v_22) 2 v_24) h25
theorem E_precentorhand_Feed_Float (call : FuncId → List AVal → Heap → Res AVal) (fuel : Nat) (f_a0 : AVal) (h : Heap) : bodyR Try.prog call fuel Try.f52 [f_a0] h = S_precentorhand_Feed_Float Try.prog call fuel f_a0 h := by kernel_rfl
theorem R_precentorhand_Feed_Float {X : XTab} (f_a0 : AVal) {h : Heap} {Q : AVal → Heap → Prop} (hx : X F_precentorhand_Feed_Float [f_a0] = none) (q : Tells (fun m => S_precentorhand_Feed_Float Try.prog (acallX Try.prog X m) m f_a0 h) Q) :
    Tells (fun m => acallX Try.prog X m F_precentorhand_Feed_Float [f_a0] h) Q :=
  Tells.later (q.le fun m => (E_precentorhand_Feed_Float (acallX Try.prog X m) m f_a0 h) ▸ acallX_le Try.func52 hx m h)


end Go.Proofs.Ytbolfamaffbnnaa
