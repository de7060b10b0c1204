/-
  Functions of trace in the form of YtochkdifpgelmaaABS (printed by a program of ours, gen.lean).
-/
import Derived.Test.YtochkdifpgelmaaSIds
set_option linter.unusedVariables false
namespace Go.Proofs.Ytochkdifpgelmaa
open Go.Ab
/-! ### precentor/trace.Causes -/
def J_trace_Causes_0 (P : Program) (call : FuncId → List AVal → Heap → Res AVal) (fuel : Nat) (k : Kn (AVal)) (t : T) (h : Heap) : Res (AVal) :=
arb (.val (t 5) h) call fun v_20 h21 =>
arb (.val v_20 h21) call fun v_22 h23 =>
k .ret (upd (upd t 71 v_20) 4 v_22) h23

def J_trace_Causes_5 (P : Program) (call : FuncId → List AVal → Heap → Res AVal) (fuel : Nat) (k : Kn (Ex × T)) (t : T) (h : Heap) : Res (Ex × T) :=
arb (.val (t 12) h) call fun v_80 h81 =>
arb (.of (aBin P .add 3 (.tmp 43) (.const (.int .i64 1)) v_80 (.int .i64 1)) h81) call fun v_82 h83 =>
arb (.val v_82 h83) call fun i_84 h85 =>
k .normal (upd (upd (upd t 43 v_80) 44 v_82) 12 i_84) h85

def J_trace_Causes_6 (P : Program) (call : FuncId → List AVal → Heap → Res AVal) (fuel : Nat) (k : Kn (Ex × T)) (t : T) (h : Heap) : Res (Ex × T) :=
arb (.val (t 0) h) call fun v_88 h89 =>
arb (.val (t 12) h89) call fun v_90 h91 =>
arb (.of (ixsR 4 v_88 v_90) h91) call fun v_92 h93 =>
arb (.of (ldn 4 h93 v_92) h93) call fun v_94 h95 =>
arb (.call F_trace_id [v_94] h95) call fun v_96 h97 =>
arb (newR [(.int .i64 0), (.int .i64 0)] h97) call fun z_98 h99 =>
arb (stR 2 h99 z_98 v_96) call fun v_100 h101 =>
arb (.val (t 8) h101) call fun v_102 h103 =>
arb (.of (ldn 2 h103 z_98) h103) call fun v_104 h105 =>
arb (.of (aLookup P h105 47 v_102 v_104 false) h105) call fun v_106 h107 =>
arb (.of (aBin P .eql 3 (.tmp 60) (.const (.int .i64 0)) v_106 (.int .i64 0)) h107) call fun v_108 h109 =>
cb v_108 (
arb (.val (t 8) h109) call fun v_110 h111 =>
arb (.of (ldn 2 h111 z_98) h111) call fun v_112 h113 =>
arb (aMapUpdate P h113 47 v_110 v_112 (.int .i64 1)) call fun v_114 h115 =>
arb (.val (t 5) h115) call fun v_116 h117 =>
arb (.of (ldn 2 h117 z_98) h117) call fun v_118 h119 =>
arb (.call F_trace_lay [v_116, v_118] h119) call fun v_120 h121 =>
arb (.val v_120 h121) call fun out_122 h123 =>
arb (.val (t 6) h123) call fun v_124 h125 =>
arb (.of (ldn 2 h125 z_98) h125) call fun v_126 h127 =>
arb (bslR 2 [(.int .i64 0), (.int .i64 0)] 1 h127 [(0, 2, v_126)]) call fun v_128 h129 =>
arb (appR 2 16 h129 v_124 v_128) call fun v_130 h131 =>
arb (.val v_130 h131) call fun todo_132 h133 =>
k .normal (upd (upd (upd (upd (upd (upd (upd (upd (upd (upd (upd (upd (upd (upd (upd (upd (upd (upd (upd (upd (upd t 53 v_88) 54 v_90) 55 v_92) 56 v_94) 57 v_96) 13 z_98) 58 v_102) 59 v_104) 60 v_106) 61 v_108) 62 v_110) 63 v_112) 64 v_116) 65 v_118) 66 v_120) 5 out_122) 67 v_124) 68 v_126) 69 v_128) 70 v_130) 6 todo_132) h133) (
k .normal (upd (upd (upd (upd (upd (upd (upd (upd (upd (upd t 53 v_88) 54 v_90) 55 v_92) 56 v_94) 57 v_96) 13 z_98) 58 v_102) 59 v_104) 60 v_106) 61 v_108) h109)

def J_trace_Causes_4 (P : Program) (call : FuncId → List AVal → Heap → Res AVal) (fuel : Nat) (k : Kn (Ex × T)) (t : T) (h : Heap) : Res (Ex × T) :=
lt (sqK (J_trace_Causes_5 P call fuel k) k) fun k86 =>
lt (blkK 3 k86) fun k87 =>
lt (sqK (J_trace_Causes_6 P call fuel k87) k87) fun k134 =>
obv (.val (t 0) h) fun v_135 =>
obv (.val (t 12) h) fun v_136 =>
obv (.of (ixsR 4 v_135 v_136) h) fun v_137 =>
obv (.of (fadR 1 v_137) h) fun v_138 =>
obv (.of (ld1 h v_138) h) fun v_139 =>
obv (.of (fadR 0 (t 9)) h) fun v_140 =>
obv (.of (ld1 h v_140) h) fun v_141 =>
obv (.of (aBin P .neq 3 (.tmp 49) (.tmp 51) v_139 v_141) h) fun v_142 =>
cb v_142 (
k134 (.exit 3) (upd (upd (upd (upd (upd (upd (upd (upd t 45 v_135) 46 v_136) 47 v_137) 48 v_138) 49 v_139) 50 v_140) 51 v_141) 52 v_142) h) (
k134 .normal (upd (upd (upd (upd (upd (upd (upd (upd t 45 v_135) 46 v_136) 47 v_137) 48 v_138) 49 v_139) 50 v_140) 51 v_141) 52 v_142) h)

def L_trace_Causes_3 (P : Program) (call : FuncId → List AVal → Heap → Res AVal) (fuel : Nat) (t : T) (h : Heap) : Res (Ex × T) :=
lt okK fun k =>
lt (sqK (J_trace_Causes_4 P call fuel k) k) fun k143 =>
arb (.val (t 12) h) call fun v_144 h145 =>
arb (.val (t 11) h145) call fun v_146 h147 =>
arb (.of (aBin P .lss 3 (.tmp 40) (.tmp 41) v_144 v_146) h147) call fun v_148 h149 =>
cb v_148 (
k143 .normal (upd (upd (upd t 40 v_144) 41 v_146) 42 v_148) h149) (
k143 (.exit 2) (upd (upd (upd t 40 v_144) 41 v_146) 42 v_148) h149)

def J_trace_Causes_2 (P : Program) (call : FuncId → List AVal → Heap → Res AVal) (fuel : Nat) (k : Kn (Ex × T)) (t : T) (h : Heap) : Res (Ex × T) :=
lt (blkK 1 k) fun k26 =>
arb (.val (t 6) h) call fun v_27 h28 =>
arb (.of (ixsR 2 v_27 (.int .i64 0)) h28) call fun v_29 h30 =>
arb (.of (ldn 2 h30 v_29) h30) call fun v_31 h32 =>
arb (newR [(.int .i64 0), (.int .i64 0)] h32) call fun y_33 h34 =>
arb (stR 2 h34 y_33 v_31) call fun v_35 h36 =>
arb (.val (t 6) h36) call fun v_37 h38 =>
arb (.of (slcR 2 v_37 (some (.int .i64 1)) none none) h38) call fun v_39 h40 =>
arb (.val v_39 h40) call fun todo_41 h42 =>
obv (.val (t 7) h42) fun v_43 =>
obv (.of (fadR 0 y_33) h42) fun v_45 =>
obv (.of (ld1 h42 v_45) h42) fun v_47 => ifb true <|
obv (.of (aLookup P h42 46 v_43 v_47 false) h42) fun v_49 => ifb true <|
obv (.val (t 0) h42) fun v_51 =>
obv (.of (ldn 2 h42 y_33) h42) fun v_53 => ifb true <|
arbE (.call F_trace_first [v_51, v_53] h42) call fun v_55 h56 => lt h56 fun g56 => ifb (true && (isV v_49 (arVal (.of (aLookup P g56 46 v_43 v_47 false) g56)) && (isV v_47 (arVal (.of (ld1 g56 v_45) g56)) && true))) <|
obv (.val v_49 g56) fun from_57 =>
obv (.val v_55 g56) fun end_59 =>
arb (.val (t 7) g56) call fun v_61 h62 =>
arb (.of (fadR 0 y_33) h62) call fun v_63 h64 =>
arb (.of (ld1 h64 v_63) h64) call fun v_65 h66 =>
arb (.val from_57 h66) call fun v_67 h68 =>
arb (.val end_59 h68) call fun v_69 h70 =>
arb (.of (aPureB P (Builtin.max_ #[3, 3] 3) [v_67, v_69]) h70) call fun v_71 h72 =>
arb (aMapUpdate P h72 46 v_61 v_65 v_71) call fun v_73 h74 =>
arb (.val from_57 h74) call fun v_75 h76 =>
arb (.val v_75 h76) call fun i_77 h78 =>
lt (blkK 2 k26) fun k79 =>
(loopN (L_trace_Causes_3 P call fuel) fuel (upd (upd (upd (upd (upd (upd (upd (upd (upd (upd (upd (upd (upd (upd (upd (upd (upd (upd (upd (upd (upd (upd (upd (upd t 21 v_27) 22 v_29) 23 v_31) 9 y_33) 24 v_37) 25 v_39) 6 todo_41) 26 v_43) 27 v_45) 28 v_47) 29 v_49) 30 v_51) 31 v_53) 32 v_55) 10 from_57) 11 end_59) 33 v_61) 34 v_63) 35 v_65) 36 v_67) 37 v_69) 38 v_71) 39 v_75) 12 i_77) h78).bind (lpK k79)

def L_trace_Causes_1 (P : Program) (call : FuncId → List AVal → Heap → Res AVal) (fuel : Nat) (t : T) (h : Heap) : Res (Ex × T) :=
lt okK fun k =>
lt (sqK (J_trace_Causes_2 P call fuel k) k) fun k150 =>
arb (.val (t 6) h) call fun v_151 h152 =>
arb (.of (lenL v_151) h152) call fun v_153 h154 =>
arb (.of (aBin P .gtr 3 (.tmp 19) (.const (.int .i64 0)) v_153 (.int .i64 0)) h154) call fun v_155 h156 =>
cb v_155 (
k150 .normal (upd (upd (upd t 18 v_151) 19 v_153) 20 v_155) h156) (
k150 (.exit 0) (upd (upd (upd t 18 v_151) 19 v_153) 20 v_155) h156)

def S_trace_Causes (P : Program) (call : FuncId → List AVal → Heap → Res AVal) (fuel : Nat) (l_a0 x_a1 : AVal) (h : Heap) : Res AVal :=
lt (retK P [.tmp 4]) fun k =>
arb (boxR x_a1 h) call fun x_0 h1 =>
arb (.val .nils h1) call fun v_2 h3 =>
arb (.val .nils h3) call fun out_4 h5 =>
arb (.of (ldn 2 h5 x_0) h5) call fun v_6 h7 =>
arb (bslR 2 [(.int .i64 0), (.int .i64 0)] 1 h7 [(0, 2, v_6)]) call fun v_8 h9 =>
arb (.val v_8 h9) call fun todo_10 h11 =>
arb (.val (.mp h11.next) (Heap.new h11 true [])) call fun v_12 h13 =>
arb (.val v_12 h13) call fun done_14 h15 =>
arb (.val (.mp h15.next) (Heap.new h15 true [])) call fun v_16 h17 =>
arb (.val v_16 h17) call fun known_18 h19 =>
lt (sqK (J_trace_Causes_0 P call fuel k) k) fun k24 =>
lt (blkK 0 k24) fun k25 =>
(loopN (L_trace_Causes_1 P call fuel) fuel (upd (upd (upd (upd (upd (upd (upd (upd (upd (upd (enterT [l_a0, x_a1]) 3 x_0) 4 v_2) 5 out_4) 14 v_6) 15 v_8) 6 todo_10) 16 v_12) 7 done_14) 17 v_16) 8 known_18) h19).bind (lpK k25)
theorem E_trace_Causes (call : FuncId → List AVal → Heap → Res AVal) (fuel : Nat) (l_a0 x_a1 : AVal) (h : Heap) : bodyR Try.prog call fuel Try.f10 [l_a0, x_a1] h = S_trace_Causes Try.prog call fuel l_a0 x_a1 h := by kernel_rfl
theorem R_trace_Causes {X : XTab} (l_a0 x_a1 : AVal) {h : Heap} {Q : AVal → Heap → Prop} (hx : X F_trace_Causes [l_a0, x_a1] = none) (q : Tells (fun m => S_trace_Causes Try.prog (acallX Try.prog X m) m l_a0 x_a1 h) Q) :
    Tells (fun m => acallX Try.prog X m F_trace_Causes [l_a0, x_a1] h) Q :=
  Tells.later (q.le fun m => (E_trace_Causes (acallX Try.prog X m) m l_a0 x_a1 h) ▸ acallX_le Try.func10 hx m h)

/-! ### precentor/trace.Line -/
def J_trace_Line_1 (P : Program) (call : FuncId → List AVal → Heap → Res AVal) (fuel : Nat) (k : Kn (AVal)) (t : T) (h : Heap) : Res (AVal) :=
arb (.val (t 10) h) call fun v_16 h17 =>
arb (.val v_16 h17) call fun v_18 h19 =>
arb (.val (.bool true) h19) call fun v_20 h21 =>
k .ret (upd (upd (upd t 133 v_16) 2 v_18) 3 v_20) h21

def J_trace_Line_9 (P : Program) (call : FuncId → List AVal → Heap → Res AVal) (fuel : Nat) (k : Kn (Ex × T)) (t : T) (h : Heap) : Res (Ex × T) :=
arb (.of (aBin P .add 3 (.tmp 112) (.const (.int .i64 1)) (t 112) (.int .i64 1)) h) call fun v_52 h53 =>
arb (.val v_52 h53) call fun v_54 h55 =>
k .normal (upd (upd t 132 v_52) 112 v_54) h55

def J_trace_Line_8 (P : Program) (call : FuncId → List AVal → Heap → Res AVal) (fuel : Nat) (k : Kn (Ex × T)) (t : T) (h : Heap) : Res (Ex × T) :=
lt (sqK (J_trace_Line_9 P call fuel k) k) fun k56 =>
lt (blkK 11 k56) fun k57 =>
arb (.val (t 112) h) call fun v_58 h59 =>
arb (.of (ixsR 1 (t 110) (t 112)) h59) call fun v_60 h61 =>
arb (.of (ld1 h61 v_60) h61) call fun v_62 h63 =>
arb (.val v_58 h63) call fun i_64 h65 =>
arb (.val v_62 h65) call fun a_66 h67 =>
obv (.val a_66 h67) fun v_68 =>
obv (.of (lenL v_68) h67) fun v_69 =>
obv (.of (aBin P .gtr 3 (.tmp 118) (.const (.int .i64 0)) v_69 (.int .i64 0)) h67) fun v_70 =>
obv (.val v_70 h67) fun v_71 =>
gd (wantB v_71 true) (fun c => obv (.val a_66 h67) fun v => c v h67) h67 fun v_72 h73 =>
gd (wantB v_71 true) (fun c => obv (.of (ixsR 2 v_72 (.int .i64 0)) h73) fun v => c v h73) h73 fun v_74 h75 =>
gd (wantB v_71 true) (fun c => obv (.of (ldn 2 h75 v_74) h75) fun v => c v h75) h75 fun v_76 h77 =>
gd (wantB v_71 true) (fun c => obv (.of (ldn 2 h77 (t 12)) h77) fun v => c v h77) h77 fun v_78 h79 =>
gd (wantB v_71 true) (fun c => obv (.of (aBin P .eql 30 (.tmp 123) (.tmp 124) v_76 v_78) h79) fun v => c v h79) h79 fun v_80 h81 =>
obv (pkR v_71 v_80 (.bool false) h81) fun v_82 =>
cb v_82 (
arb (.val (t 4) h81) call fun v_83 h84 =>
arb (.val i_64 h84) call fun v_85 h86 =>
arb (.val a_66 h86) call fun v_87 h88 =>
arb (.of (slcR 2 v_87 (some (.int .i64 1)) none none) h88) call fun v_89 h90 =>
arb (.of (ixsR 1 v_83 v_85) h90) call fun v_91 h92 =>
arb (stR 1 h92 v_91 v_89) call fun v_93 h94 =>
k57 .normal (upd (upd (upd (upd (upd (upd (upd (upd (upd (upd (upd (upd (upd (upd (upd (upd (upd (upd (upd (upd t 114 v_58) 115 v_60) 116 v_62) 18 i_64) 19 a_66) 117 v_68) 118 v_69) 119 v_70) 120 v_71) 121 v_72) 122 v_74) 123 v_76) 124 v_78) 125 v_80) 126 v_82) 127 v_83) 128 v_85) 129 v_87) 130 v_89) 131 v_91) h94) (
k57 .normal (upd (upd (upd (upd (upd (upd (upd (upd (upd (upd (upd (upd (upd (upd (upd t 114 v_58) 115 v_60) 116 v_62) 18 i_64) 19 a_66) 117 v_68) 118 v_69) 119 v_70) 120 v_71) 121 v_72) 122 v_74) 123 v_76) 124 v_78) 125 v_80) 126 v_82) h81)

def L_trace_Line_7 (P : Program) (call : FuncId → List AVal → Heap → Res AVal) (fuel : Nat) (t : T) (h : Heap) : Res (Ex × T) :=
lt okK fun k =>
arb (.of (aBin P .lss 3 (.tmp 112) (.tmp 111) (t 112) (t 111)) h) call fun v_50 h51 =>
lt (sqK (J_trace_Line_8 P call fuel k) k) fun k95 =>
cb v_50 (
k95 .normal (upd t 113 v_50) h51) (
k95 (.exit 10) (upd t 113 v_50) h51)

def J_trace_Line_6 (P : Program) (call : FuncId → List AVal → Heap → Res AVal) (fuel : Nat) (k : Kn (Ex × T)) (t : T) (h : Heap) : Res (Ex × T) :=
arb (.val (t 10) h) call fun v_33 h34 =>
arb (.of (ldn 2 h34 (t 12)) h34) call fun v_35 h36 =>
arb (bslR 2 [(.int .i64 0), (.int .i64 0)] 1 h36 [(0, 2, v_35)]) call fun v_37 h38 =>
arb (appR 2 16 h38 v_33 v_37) call fun v_39 h40 =>
arb (.val v_39 h40) call fun out_41 h42 =>
arb (.val (t 4) h42) call fun v_43 h44 =>
arb (.of (lenL v_43) h44) call fun v_45 h46 =>
arb (.val (.int .i64 0) h46) call fun v_47 h48 =>
lt (blkK 10 k) fun k49 =>
(loopN (L_trace_Line_7 P call fuel) fuel (upd (upd (upd (upd (upd (upd (upd (upd t 106 v_33) 107 v_35) 108 v_37) 109 v_39) 10 out_41) 110 v_43) 111 v_45) 112 v_47) h48).bind (lpK k49)

def J_trace_Line_5 (P : Program) (call : FuncId → List AVal → Heap → Res AVal) (fuel : Nat) (k : Kn (Ex × T)) (t : T) (h : Heap) : Res (Ex × T) :=
lt (sqK (J_trace_Line_6 P call fuel k) k) fun k96 =>
arb (.val (t 13) h) call fun v_97 h98 =>
arb (.of (aUn P .not v_97) h98) call fun v_99 h100 =>
cb v_99 (
arb (.val .nils h100) call fun v_101 h102 =>
arb (.val (.bool false) h102) call fun v_103 h104 =>
k96 .ret (upd (upd (upd (upd t 104 v_97) 105 v_99) 2 v_101) 3 v_103) h104) (
k96 .normal (upd (upd t 104 v_97) 105 v_99) h100)

def J_trace_Line_12 (P : Program) (call : FuncId → List AVal → Heap → Res AVal) (fuel : Nat) (k : Kn (Ex × T)) (t : T) (h : Heap) : Res (Ex × T) :=
arb (.of (aBin P .add 3 (.tmp 69) (.const (.int .i64 1)) (t 69) (.int .i64 1)) h) call fun v_115 h116 =>
arb (.val v_115 h116) call fun v_117 h118 =>
k .normal (upd (upd t 103 v_115) 69 v_117) h118

def J_trace_Line_11 (P : Program) (call : FuncId → List AVal → Heap → Res AVal) (fuel : Nat) (k : Kn (Ex × T)) (t : T) (h : Heap) : Res (Ex × T) :=
lt (sqK (J_trace_Line_12 P call fuel k) k) fun k119 =>
lt (blkK 9 k119) fun k120 =>
arb (.of (ixsR 1 (t 67) (t 69)) h) call fun v_121 h122 =>
arb (.of (ld1 h122 v_121) h122) call fun v_123 h124 =>
arb (.val v_123 h124) call fun a_125 h126 =>
obv (.val a_125 h126) fun v_127 =>
obv (.of (lenL v_127) h126) fun v_129 =>
obv (.of (aBin P .gtr 3 (.tmp 74) (.const (.int .i64 0)) v_129 (.int .i64 0)) h126) fun v_131 =>
obv (.val v_131 h126) fun v_133 =>
gdr (wantB v_133 true) (fun c => obv (.val (t 11) h126) fun v_135 =>
c true v_135 h126) h126 fun w137 v_135 h137 =>
gdr (wantB v_133 true) (fun c => obv (.val a_125 h137) fun v_138 =>
c true v_138 h137) h137 fun w140 v_138 h140 =>
gdr (wantB v_133 true) (fun c => obv (.of (ixsR 2 v_138 (.int .i64 0)) h140) fun v_141 =>
c true v_141 h140) h140 fun w143 v_141 h143 =>
gdr (wantB v_133 true) (fun c => obv (.of (ldn 2 h143 v_141) h143) fun v_144 => ifb true <|
c true v_144 h143) h143 fun w146 v_144 h146 =>
gdr (wantB v_133 true) (fun c => obv (.of (aLookup P h146 47 v_135 v_144 false) h146) fun v_147 => ifb true <|
c true v_147 h146) h146 fun w149 v_147 h149 =>
gdr (wantB v_133 true) (fun c => obv (.val (t 5) h149) fun v_150 =>
c true v_150 h149) h149 fun w152 v_150 h152 =>
gdr (wantB v_133 true) (fun c => obv (.val a_125 h152) fun v_153 =>
c true v_153 h152) h152 fun w155 v_153 h155 =>
gdr (wantB v_133 true) (fun c => obv (.of (ixsR 2 v_153 (.int .i64 0)) h155) fun v_156 =>
c true v_156 h155) h155 fun w158 v_156 h158 =>
gdr (wantB v_133 true) (fun c => obv (.of (ldn 2 h158 v_156) h158) fun v_159 => ifb true <|
c true v_159 h158) h158 fun w161 v_159 h161 =>
gdr (wantB v_133 true) (fun c => obv (.of (aLookup P h161 47 v_150 v_159 false) h161) fun v_162 => ifb true <|
c true v_162 h161) h161 fun w164 v_162 h164 =>
gdr (wantB v_133 true) (fun c => obv (.of (aBin P .eql 3 (.tmp 81) (.tmp 86) v_147 v_162) h164) fun v_165 =>
c true v_165 h164) h164 fun w167 v_165 h167 =>
obv (pkR v_133 v_165 (.bool false) h167) fun v_168 =>
obv (.val v_168 h167) fun v_170 =>
gdr (wantB v_170 true) (fun c => obv (.val (t 13) h167) fun v_172 =>
c true v_172 h167) h167 fun w174 v_172 h174 =>
gdr (wantB v_170 true) (fun c => obv (.of (aUn P .not v_172) h174) fun v_175 =>
c true v_175 h174) h174 fun w177 v_175 h177 =>
gdr (wantB v_170 true) (fun c => obv (.val v_175 h177) fun v_178 =>
c true v_178 h177) h177 fun w180 v_178 h180 =>
gdr (wantB v_178 false) (fun c => obv (.val a_125 h180) fun v_181 =>
c true v_181 h180) h180 fun w183 v_181 h183 =>
gdr (wantB v_178 false) (fun c => obv (.of (ixsR 2 v_181 (.int .i64 0)) h183) fun v_184 =>
c true v_184 h183) h183 fun w186 v_184 h186 =>
gdr (wantB v_178 false) (fun c => obv (.of (ldn 2 h186 v_184) h186) fun v_187 => ifb true <|
c true v_187 h186) h186 fun w189 v_187 h189 =>
gdr (wantB v_178 false) (fun c => obv (.of (ldn 2 h189 (t 12)) h189) fun v_190 => ifb true <|
c true v_190 h189) h189 fun w192 v_190 h192 =>
gdr (wantB v_178 false) (fun c => arbE (.call F_trace_ahead [v_187, v_190] h192) call fun v_193 h194 => lt h194 fun g194 => ifb (true && true) <|
c true v_193 g194) h192 fun w195 v_193 h195 =>
gdr (wantB v_170 true) (fun c => obv (pkR v_178 (.bool true) v_193 h195) fun v_196 =>
c true v_196 h195) h195 fun w198 v_196 h198 =>
obv (pkR v_170 v_196 (.bool false) h198) fun v_199 =>
cb v_199 (
arb (.val a_125 h198) call fun v_201 h202 =>
arb (.of (ixsR 2 v_201 (.int .i64 0)) h202) call fun v_203 h204 =>
arb (.of (ldn 2 h204 v_203) h204) call fun v_205 h206 =>
arb (stR 2 h206 (t 12) v_205) call fun v_207 h208 =>
arb (.val (.bool true) h208) call fun found_209 h210 =>
k120 .normal (upd (upd (upd (upd (upd (upd (upd (upd (upd (upd (upd (upd (upd (upd (upd (upd (upd (upd (upd (upd (upd (upd (upd (upd (upd (upd (upd (upd (upd (upd (upd (upd (upd (upd t 71 v_121) 72 v_123) 17 a_125) 73 v_127) 74 v_129) 75 v_131) 76 v_133) 77 v_135) 78 v_138) 79 v_141) 80 v_144) 81 v_147) 82 v_150) 83 v_153) 84 v_156) 85 v_159) 86 v_162) 87 v_165) 88 v_168) 89 v_170) 90 v_172) 91 v_175) 92 v_178) 93 v_181) 94 v_184) 95 v_187) 96 v_190) 97 v_193) 98 v_196) 99 v_199) 100 v_201) 101 v_203) 102 v_205) 13 found_209) h210) (
k120 .normal (upd (upd (upd (upd (upd (upd (upd (upd (upd (upd (upd (upd (upd (upd (upd (upd (upd (upd (upd (upd (upd (upd (upd (upd (upd (upd (upd (upd (upd (upd t 71 v_121) 72 v_123) 17 a_125) 73 v_127) 74 v_129) 75 v_131) 76 v_133) 77 v_135) 78 v_138) 79 v_141) 80 v_144) 81 v_147) 82 v_150) 83 v_153) 84 v_156) 85 v_159) 86 v_162) 87 v_165) 88 v_168) 89 v_170) 90 v_172) 91 v_175) 92 v_178) 93 v_181) 94 v_184) 95 v_187) 96 v_190) 97 v_193) 98 v_196) 99 v_199) h198)

def L_trace_Line_10 (P : Program) (call : FuncId → List AVal → Heap → Res AVal) (fuel : Nat) (t : T) (h : Heap) : Res (Ex × T) :=
lt okK fun k =>
arb (.of (aBin P .lss 3 (.tmp 69) (.tmp 68) (t 69) (t 68)) h) call fun v_113 h114 =>
lt (sqK (J_trace_Line_11 P call fuel k) k) fun k211 =>
cb v_113 (
k211 .normal (upd t 70 v_113) h114) (
k211 (.exit 8) (upd t 70 v_113) h114)

def J_trace_Line_4 (P : Program) (call : FuncId → List AVal → Heap → Res AVal) (fuel : Nat) (k : Kn (Ex × T)) (t : T) (h : Heap) : Res (Ex × T) :=
lt (sqK (J_trace_Line_5 P call fuel k) k) fun k105 =>
arb (.val (t 4) h) call fun v_106 h107 =>
arb (.of (lenL v_106) h107) call fun v_108 h109 =>
arb (.val (.int .i64 0) h109) call fun v_110 h111 =>
lt (blkK 8 k105) fun k112 =>
(loopN (L_trace_Line_10 P call fuel) fuel (upd (upd (upd t 67 v_106) 68 v_108) 69 v_110) h111).bind (lpK k112)

def J_trace_Line_15 (P : Program) (call : FuncId → List AVal → Heap → Res AVal) (fuel : Nat) (k : Kn (Ex × T)) (t : T) (h : Heap) : Res (Ex × T) :=
arb (.of (aBin P .add 3 (.tmp 51) (.const (.int .i64 1)) (t 51) (.int .i64 1)) h) call fun v_222 h223 =>
arb (.val v_222 h223) call fun v_224 h225 =>
k .normal (upd (upd t 66 v_222) 51 v_224) h225

def J_trace_Line_14 (P : Program) (call : FuncId → List AVal → Heap → Res AVal) (fuel : Nat) (k : Kn (Ex × T)) (t : T) (h : Heap) : Res (Ex × T) :=
lt (sqK (J_trace_Line_15 P call fuel k) k) fun k226 =>
lt (blkK 7 k226) fun k227 =>
arb (.of (ixsR 1 (t 49) (t 51)) h) call fun v_228 h229 =>
arb (.of (ld1 h229 v_228) h229) call fun v_230 h231 =>
arb (.val v_230 h231) call fun a_232 h233 =>
arb (.val a_232 h233) call fun v_234 h235 =>
arb (.of (lenL v_234) h235) call fun v_236 h237 =>
arb (.of (aBin P .gtr 3 (.tmp 56) (.const (.int .i64 0)) v_236 (.int .i64 0)) h237) call fun v_238 h239 =>
cb v_238 (
obv (.val (t 11) h239) fun v_240 =>
obv (.val a_232 h239) fun v_242 =>
obv (.of (ixsR 2 v_242 (.int .i64 0)) h239) fun v_244 =>
obv (.of (ldn 2 h239 v_244) h239) fun v_246 => ifb true <|
obv (.of (aLookup P h239 47 v_240 v_246 false) h239) fun v_248 => ifb true <|
obv (.of (aBin P .add 3 (.tmp 62) (.const (.int .i64 1)) v_248 (.int .i64 1)) h239) fun v_250 =>
arbE (aMapEntry P h239 47 v_240 v_246) call fun v_252 h253 => lt h253 fun g253 => ifb (true && (isV v_248 (arVal (.of (aLookup P g253 47 v_240 v_246 false) g253)) && true)) <|
obv (extR v_252 1 g253) fun v_254 =>
arbE (aEntryStore g253 v_240 v_254 v_250) call fun v_256 h257 => lt h257 fun g257 => ifb (true && true) <|
k227 .normal (upd (upd (upd (upd (upd (upd (upd (upd (upd (upd (upd (upd (upd (upd t 53 v_228) 54 v_230) 15 a_232) 55 v_234) 56 v_236) 57 v_238) 58 v_240) 59 v_242) 60 v_244) 61 v_246) 62 v_248) 63 v_250) 64 v_252) 65 v_254) g257) (
k227 .normal (upd (upd (upd (upd (upd (upd t 53 v_228) 54 v_230) 15 a_232) 55 v_234) 56 v_236) 57 v_238) h239)

def L_trace_Line_13 (P : Program) (call : FuncId → List AVal → Heap → Res AVal) (fuel : Nat) (t : T) (h : Heap) : Res (Ex × T) :=
lt okK fun k =>
arb (.of (aBin P .lss 3 (.tmp 51) (.tmp 50) (t 51) (t 50)) h) call fun v_220 h221 =>
lt (sqK (J_trace_Line_14 P call fuel k) k) fun k258 =>
cb v_220 (
k258 .normal (upd t 52 v_220) h221) (
k258 (.exit 6) (upd t 52 v_220) h221)

def J_trace_Line_3 (P : Program) (call : FuncId → List AVal → Heap → Res AVal) (fuel : Nat) (k : Kn (Ex × T)) (t : T) (h : Heap) : Res (Ex × T) :=
lt (blkK 5 k) fun k24 =>
arb (.val (.mp h.next) (Heap.new h true [])) call fun v_25 h26 =>
arb (.val v_25 h26) call fun next_27 h28 =>
arb (newR [(.int .i64 0), (.int .i64 0)] h28) call fun best_29 h30 =>
arb (.val (.bool false) h30) call fun found_31 h32 =>
lt (sqK (J_trace_Line_4 P call fuel k24) k24) fun k212 =>
arb (.val (t 4) h32) call fun v_213 h214 =>
arb (.of (lenL v_213) h214) call fun v_215 h216 =>
arb (.val (.int .i64 0) h216) call fun v_217 h218 =>
lt (blkK 6 k212) fun k219 =>
(loopN (L_trace_Line_13 P call fuel) fuel (upd (upd (upd (upd (upd (upd (upd t 48 v_25) 11 next_27) 12 best_29) 13 found_31) 49 v_213) 50 v_215) 51 v_217) h218).bind (lpK k219)

def L_trace_Line_2 (P : Program) (call : FuncId → List AVal → Heap → Res AVal) (fuel : Nat) (t : T) (h : Heap) : Res (Ex × T) :=
lt okK fun k =>
lt (sqK (J_trace_Line_3 P call fuel k) k) fun k259 =>
arb (.val (t 10) h) call fun v_260 h261 =>
arb (.of (lenL v_260) h261) call fun v_262 h263 =>
arb (.val (t 5) h263) call fun v_264 h265 =>
arb (.of (aLenM h265 v_264) h265) call fun v_266 h267 =>
arb (.of (aBin P .lss 3 (.tmp 44) (.tmp 46) v_262 v_266) h267) call fun v_268 h269 =>
cb v_268 (
k259 .normal (upd (upd (upd (upd (upd t 43 v_260) 44 v_262) 45 v_264) 46 v_266) 47 v_268) h269) (
k259 (.exit 4) (upd (upd (upd (upd (upd t 43 v_260) 44 v_262) 45 v_264) 46 v_266) 47 v_268) h269)

def J_trace_Line_0 (P : Program) (call : FuncId → List AVal → Heap → Res AVal) (fuel : Nat) (k : Kn (AVal)) (t : T) (h : Heap) : Res (AVal) :=
arb (.val .nils h) call fun out_14 h15 =>
lt (sqK (J_trace_Line_1 P call fuel k) k) fun k22 =>
lt (blkK 4 k22) fun k23 =>
(loopN (L_trace_Line_2 P call fuel) fuel (upd t 10 out_14) h15).bind (lpK k23)

def J_trace_Line_18 (P : Program) (call : FuncId → List AVal → Heap → Res AVal) (fuel : Nat) (k : Kn (Ex × T)) (t : T) (h : Heap) : Res (Ex × T) :=
arb (.of (aBin P .add 3 (.tmp 25) (.const (.int .i64 1)) (t 25) (.int .i64 1)) h) call fun v_280 h281 =>
arb (.val v_280 h281) call fun v_282 h283 =>
k .normal (upd (upd t 42 v_280) 25 v_282) h283

def J_trace_Line_21 (P : Program) (call : FuncId → List AVal → Heap → Res AVal) (fuel : Nat) (k : Kn (Ex × T)) (t : T) (h : Heap) : Res (Ex × T) :=
arb (.of (aBin P .add 3 (.tmp 31) (.const (.int .i64 1)) (t 31) (.int .i64 1)) h) call fun v_301 h302 =>
arb (.val v_301 h302) call fun v_303 h304 =>
k .normal (upd (upd t 41 v_301) 31 v_303) h304

def J_trace_Line_20 (P : Program) (call : FuncId → List AVal → Heap → Res AVal) (fuel : Nat) (k : Kn (Ex × T)) (t : T) (h : Heap) : Res (Ex × T) :=
lt (sqK (J_trace_Line_21 P call fuel k) k) fun k305 =>
lt (blkK 3 k305) fun k306 =>
arb (.of (ixsR 2 (t 29) (t 31)) h) call fun v_307 h308 =>
arb (.of (ldn 2 h308 v_307) h308) call fun v_309 h310 =>
arb (newR [(.int .i64 0), (.int .i64 0)] h310) call fun x_311 h312 =>
arb (stR 2 h312 x_311 v_309) call fun v_313 h314 =>
obv (.val (t 5) h314) fun v_315 =>
obv (.of (ldn 2 h314 x_311) h314) fun v_317 => ifb true <|
obv (.of (aLookup P h314 47 v_315 v_317 false) h314) fun v_319 => ifb true <|
obv (.of (aBin P .add 3 (.tmp 37) (.const (.int .i64 1)) v_319 (.int .i64 1)) h314) fun v_321 =>
arbE (aMapEntry P h314 47 v_315 v_317) call fun v_323 h324 => lt h324 fun g324 => ifb (true && (isV v_319 (arVal (.of (aLookup P g324 47 v_315 v_317 false) g324)) && true)) <|
obv (extR v_323 1 g324) fun v_325 =>
arbE (aEntryStore g324 v_315 v_325 v_321) call fun v_327 h328 => lt h328 fun g328 => ifb (true && true) <|
k306 .normal (upd (upd (upd (upd (upd (upd (upd (upd (upd t 33 v_307) 34 v_309) 9 x_311) 35 v_315) 36 v_317) 37 v_319) 38 v_321) 39 v_323) 40 v_325) g328

def L_trace_Line_19 (P : Program) (call : FuncId → List AVal → Heap → Res AVal) (fuel : Nat) (t : T) (h : Heap) : Res (Ex × T) :=
lt okK fun k =>
arb (.of (aBin P .lss 3 (.tmp 31) (.tmp 30) (t 31) (t 30)) h) call fun v_299 h300 =>
lt (sqK (J_trace_Line_20 P call fuel k) k) fun k329 =>
cb v_299 (
k329 .normal (upd t 32 v_299) h300) (
k329 (.exit 2) (upd t 32 v_299) h300)

def J_trace_Line_17 (P : Program) (call : FuncId → List AVal → Heap → Res AVal) (fuel : Nat) (k : Kn (Ex × T)) (t : T) (h : Heap) : Res (Ex × T) :=
lt (sqK (J_trace_Line_18 P call fuel k) k) fun k284 =>
lt (blkK 1 k284) fun k285 =>
arb (.of (ixsR 1 (t 23) (t 25)) h) call fun v_286 h287 =>
arb (.of (ld1 h287 v_286) h287) call fun v_288 h289 =>
arb (.val v_288 h289) call fun a_290 h291 =>
arb (.val a_290 h291) call fun v_292 h293 =>
arb (.of (lenL v_292) h293) call fun v_294 h295 =>
arb (.val (.int .i64 0) h295) call fun v_296 h297 =>
lt (blkK 2 k285) fun k298 =>
(loopN (L_trace_Line_19 P call fuel) fuel (upd (upd (upd (upd (upd (upd t 27 v_286) 28 v_288) 7 a_290) 29 v_292) 30 v_294) 31 v_296) h297).bind (lpK k298)

def L_trace_Line_16 (P : Program) (call : FuncId → List AVal → Heap → Res AVal) (fuel : Nat) (t : T) (h : Heap) : Res (Ex × T) :=
lt okK fun k =>
arb (.of (aBin P .lss 3 (.tmp 25) (.tmp 24) (t 25) (t 24)) h) call fun v_278 h279 =>
lt (sqK (J_trace_Line_17 P call fuel k) k) fun k330 =>
cb v_278 (
k330 .normal (upd t 26 v_278) h279) (
k330 (.exit 0) (upd t 26 v_278) h279)

def S_trace_Line (P : Program) (call : FuncId → List AVal → Heap → Res AVal) (fuel : Nat) (l_a0 : AVal) (h : Heap) : Res AVal :=
lt (retK P [.tmp 2, .tmp 3]) fun k =>
arb (.val .nils h) call fun v_0 h1 =>
arb (.val (.bool false) h1) call fun v_2 h3 =>
arb (.val l_a0 h3) call fun v_4 h5 =>
arb (.call F_trace_rows [v_4] h5) call fun v_6 h7 =>
arb (.val v_6 h7) call fun all_8 h9 =>
arb (.val (.mp h9.next) (Heap.new h9 true [])) call fun v_10 h11 =>
arb (.val v_10 h11) call fun heard_12 h13 =>
lt (sqK (J_trace_Line_0 P call fuel k) k) fun k270 =>
arb (.val all_8 h13) call fun v_271 h272 =>
arb (.of (lenL v_271) h272) call fun v_273 h274 =>
arb (.val (.int .i64 0) h274) call fun v_275 h276 =>
lt (blkK 0 k270) fun k277 =>
(loopN (L_trace_Line_16 P call fuel) fuel (upd (upd (upd (upd (upd (upd (upd (upd (upd (upd (enterT [l_a0]) 2 v_0) 3 v_2) 20 v_4) 21 v_6) 4 all_8) 22 v_10) 5 heard_12) 23 v_271) 24 v_273) 25 v_275) h276).bind (lpK k277)
theorem E_trace_Line (call : FuncId → List AVal → Heap → Res AVal) (fuel : Nat) (l_a0 : AVal) (h : Heap) : bodyR Try.prog call fuel Try.f11 [l_a0] h = S_trace_Line Try.prog call fuel l_a0 h := by kernel_rfl
theorem R_trace_Line {X : XTab} (l_a0 : AVal) {h : Heap} {Q : AVal → Heap → Prop} (hx : X F_trace_Line [l_a0] = none) (q : Tells (fun m => S_trace_Line Try.prog (acallX Try.prog X m) m l_a0 h) Q) :
    Tells (fun m => acallX Try.prog X m F_trace_Line [l_a0] h) Q :=
  Tells.later (q.le fun m => (E_trace_Line (acallX Try.prog X m) m l_a0 h) ▸ acallX_le Try.func11 hx m h)

/-! ### precentor/trace.Agree -/
def J_trace_Agree_0 (P : Program) (call : FuncId → List AVal → Heap → Res AVal) (fuel : Nat) (k : Kn (AVal)) (t : T) (h : Heap) : Res (AVal) :=
arb (.val (.bool true) h) call fun v_8 h9 =>
k .ret (upd t 2 v_8) h9

def J_trace_Agree_3 (P : Program) (call : FuncId → List AVal → Heap → Res AVal) (fuel : Nat) (k : Kn (Ex × T)) (t : T) (h : Heap) : Res (Ex × T) :=
arb (.of (aBin P .add 3 (.tmp 18) (.const (.int .i64 1)) (t 18) (.int .i64 1)) h) call fun v_20 h21 =>
arb (.val v_20 h21) call fun v_22 h23 =>
k .normal (upd (upd t 68 v_20) 18 v_22) h23

def J_trace_Agree_7 (P : Program) (call : FuncId → List AVal → Heap → Res AVal) (fuel : Nat) (k : Kn (Ex × T)) (t : T) (h : Heap) : Res (Ex × T) :=
arb (.of (aBin P .add 3 (.tmp 40) (.const (.int .i64 1)) (t 40) (.int .i64 1)) h) call fun v_53 h54 =>
arb (.val v_53 h54) call fun v_55 h56 =>
k .normal (upd (upd t 67 v_53) 40 v_55) h56

def J_trace_Agree_10 (P : Program) (call : FuncId → List AVal → Heap → Res AVal) (fuel : Nat) (k : Kn (Ex × T)) (t : T) (h : Heap) : Res (Ex × T) :=
arb (.of (aBin P .add 3 (.tmp 46) (.const (.int .i64 1)) (t 46) (.int .i64 1)) h) call fun v_76 h77 =>
arb (.val v_76 h77) call fun v_78 h79 =>
k .normal (upd (upd t 66 v_76) 46 v_78) h79

def J_trace_Agree_11 (P : Program) (call : FuncId → List AVal → Heap → Res AVal) (fuel : Nat) (k : Kn (Ex × T)) (t : T) (h : Heap) : Res (Ex × T) :=
arb (.val (t 11) h) call fun v_90 h91 =>
arb (.val (t 6) h91) call fun v_92 h93 =>
arb (.of (ldn 2 h93 (t 13)) h93) call fun v_94 h95 =>
arb (.of (aLookup P h95 47 v_92 v_94 false) h95) call fun v_96 h97 =>
arb (.of (aPureB P (Builtin.max_ #[3, 3] 3) [v_90, v_96]) h97) call fun v_98 h99 =>
arb (.val v_98 h99) call fun last_100 h101 =>
k .normal (upd (upd (upd (upd (upd (upd t 61 v_90) 62 v_92) 63 v_94) 64 v_96) 65 v_98) 11 last_100) h101

def J_trace_Agree_9 (P : Program) (call : FuncId → List AVal → Heap → Res AVal) (fuel : Nat) (k : Kn (Ex × T)) (t : T) (h : Heap) : Res (Ex × T) :=
lt (sqK (J_trace_Agree_10 P call fuel k) k) fun k80 =>
lt (blkK 7 k80) fun k81 =>
arb (.of (ixsR 2 (t 44) (t 46)) h) call fun v_82 h83 =>
arb (.of (ldn 2 h83 v_82) h83) call fun v_84 h85 =>
arb (newR [(.int .i64 0), (.int .i64 0)] h85) call fun x_86 h87 =>
arb (stR 2 h87 x_86 v_84) call fun v_88 h89 =>
lt (sqK (J_trace_Agree_11 P call fuel k81) k81) fun k102 =>
arb (.val (t 6) h89) call fun v_103 h104 =>
arb (.of (ldn 2 h104 x_86) h104) call fun v_105 h106 =>
arb (.of (aLookup P h106 47 v_103 v_105 false) h106) call fun v_107 h108 =>
arb (.of (aBin P .gtr 3 (.tmp 52) (.const (.int .i64 0)) v_107 (.int .i64 0)) h108) call fun v_109 h110 =>
arb (.val v_109 h110) call fun v_111 h112 =>
gd (wantB v_111 true) (fun c => arb (.val (t 6) h112) call c) h112 fun v_113 h114 =>
gd (wantB v_111 true) (fun c => arb (.of (ldn 2 h114 x_86) h114) call c) h114 fun v_115 h116 =>
gd (wantB v_111 true) (fun c => arb (.of (aLookup P h116 47 v_113 v_115 false) h116) call c) h116 fun v_117 h118 =>
gd (wantB v_111 true) (fun c => arb (.val (t 11) h118) call c) h118 fun v_119 h120 =>
gd (wantB v_111 true) (fun c => arb (.of (aBin P .lss 3 (.tmp 57) (.tmp 58) v_117 v_119) h120) call c) h120 fun v_121 h122 =>
arb (pkR v_111 v_121 (.bool false) h122) call fun v_123 h124 =>
cb v_123 (
arb (.val (.bool false) h124) call fun v_125 h126 =>
k102 .ret (upd (upd (upd (upd (upd (upd (upd (upd (upd (upd (upd (upd (upd (upd (upd t 48 v_82) 49 v_84) 13 x_86) 50 v_103) 51 v_105) 52 v_107) 53 v_109) 54 v_111) 55 v_113) 56 v_115) 57 v_117) 58 v_119) 59 v_121) 60 v_123) 2 v_125) h126) (
k102 .normal (upd (upd (upd (upd (upd (upd (upd (upd (upd (upd (upd (upd (upd (upd t 48 v_82) 49 v_84) 13 x_86) 50 v_103) 51 v_105) 52 v_107) 53 v_109) 54 v_111) 55 v_113) 56 v_115) 57 v_117) 58 v_119) 59 v_121) 60 v_123) h124)

def L_trace_Agree_8 (P : Program) (call : FuncId → List AVal → Heap → Res AVal) (fuel : Nat) (t : T) (h : Heap) : Res (Ex × T) :=
lt okK fun k =>
arb (.of (aBin P .lss 3 (.tmp 46) (.tmp 45) (t 46) (t 45)) h) call fun v_74 h75 =>
lt (sqK (J_trace_Agree_9 P call fuel k) k) fun k127 =>
cb v_74 (
k127 .normal (upd t 47 v_74) h75) (
k127 (.exit 6) (upd t 47 v_74) h75)

def J_trace_Agree_6 (P : Program) (call : FuncId → List AVal → Heap → Res AVal) (fuel : Nat) (k : Kn (Ex × T)) (t : T) (h : Heap) : Res (Ex × T) :=
lt (sqK (J_trace_Agree_7 P call fuel k) k) fun k57 =>
lt (blkK 5 k57) fun k58 =>
arb (.of (ixsR 1 (t 38) (t 40)) h) call fun v_59 h60 =>
arb (.of (ld1 h60 v_59) h60) call fun v_61 h62 =>
arb (.val v_61 h62) call fun b_63 h64 =>
arb (.val (.int .i64 0) h64) call fun last_65 h66 =>
arb (.val b_63 h66) call fun v_67 h68 =>
arb (.of (lenL v_67) h68) call fun v_69 h70 =>
arb (.val (.int .i64 0) h70) call fun v_71 h72 =>
lt (blkK 6 k58) fun k73 =>
(loopN (L_trace_Agree_8 P call fuel) fuel (upd (upd (upd (upd (upd (upd (upd t 42 v_59) 43 v_61) 10 b_63) 11 last_65) 44 v_67) 45 v_69) 46 v_71) h72).bind (lpK k73)

def L_trace_Agree_5 (P : Program) (call : FuncId → List AVal → Heap → Res AVal) (fuel : Nat) (t : T) (h : Heap) : Res (Ex × T) :=
lt okK fun k =>
arb (.of (aBin P .lss 3 (.tmp 40) (.tmp 39) (t 40) (t 39)) h) call fun v_51 h52 =>
lt (sqK (J_trace_Agree_6 P call fuel k) k) fun k128 =>
cb v_51 (
k128 .normal (upd t 41 v_51) h52) (
k128 (.exit 4) (upd t 41 v_51) h52)

def J_trace_Agree_4 (P : Program) (call : FuncId → List AVal → Heap → Res AVal) (fuel : Nat) (k : Kn (Ex × T)) (t : T) (h : Heap) : Res (Ex × T) :=
arb (.val (t 3) h) call fun v_40 h41 =>
arb (.val (t 4) h41) call fun v_42 h43 =>
arb (.of (slcR 1 v_40 none (some v_42) none) h43) call fun v_44 h45 =>
arb (.of (lenL v_44) h45) call fun v_46 h47 =>
arb (.val (.int .i64 0) h47) call fun v_48 h49 =>
lt (blkK 4 k) fun k50 =>
(loopN (L_trace_Agree_5 P call fuel) fuel (upd (upd (upd (upd (upd t 36 v_40) 37 v_42) 38 v_44) 39 v_46) 40 v_48) h49).bind (lpK k50)

def J_trace_Agree_14 (P : Program) (call : FuncId → List AVal → Heap → Res AVal) (fuel : Nat) (k : Kn (Ex × T)) (t : T) (h : Heap) : Res (Ex × T) :=
arb (.of (aBin P .add 3 (.tmp 26) (.const (.int .i64 1)) (t 26) (.int .i64 1)) h) call fun v_139 h140 =>
arb (.val v_139 h140) call fun v_141 h142 =>
k .normal (upd (upd t 35 v_139) 26 v_141) h142

def J_trace_Agree_13 (P : Program) (call : FuncId → List AVal → Heap → Res AVal) (fuel : Nat) (k : Kn (Ex × T)) (t : T) (h : Heap) : Res (Ex × T) :=
lt (sqK (J_trace_Agree_14 P call fuel k) k) fun k143 =>
lt (blkK 3 k143) fun k144 =>
arb (.val (t 26) h) call fun v_145 h146 =>
arb (.of (ixsR 2 (t 24) (t 26)) h146) call fun v_147 h148 =>
arb (.of (ldn 2 h148 v_147) h148) call fun v_149 h150 =>
arb (newR [(.int .i64 0), (.int .i64 0)] h150) call fun x_151 h152 =>
arb (.val v_145 h152) call fun k_153 h154 =>
arb (stR 2 h154 x_151 v_149) call fun v_155 h156 =>
arb (.val (t 6) h156) call fun v_157 h158 =>
arb (.of (ldn 2 h158 x_151) h158) call fun v_159 h160 =>
arb (.val k_153 h160) call fun v_161 h162 =>
arb (.of (aBin P .add 3 (.tmp 33) (.const (.int .i64 1)) v_161 (.int .i64 1)) h162) call fun v_163 h164 =>
arb (aMapUpdate P h164 47 v_157 v_159 v_163) call fun v_165 h166 =>
k144 .normal (upd (upd (upd (upd (upd (upd (upd (upd (upd t 28 v_145) 29 v_147) 30 v_149) 8 x_151) 7 k_153) 31 v_157) 32 v_159) 33 v_161) 34 v_163) h166

def L_trace_Agree_12 (P : Program) (call : FuncId → List AVal → Heap → Res AVal) (fuel : Nat) (t : T) (h : Heap) : Res (Ex × T) :=
lt okK fun k =>
arb (.of (aBin P .lss 3 (.tmp 26) (.tmp 25) (t 26) (t 25)) h) call fun v_137 h138 =>
lt (sqK (J_trace_Agree_13 P call fuel k) k) fun k167 =>
cb v_137 (
k167 .normal (upd t 27 v_137) h138) (
k167 (.exit 2) (upd t 27 v_137) h138)

def J_trace_Agree_2 (P : Program) (call : FuncId → List AVal → Heap → Res AVal) (fuel : Nat) (k : Kn (Ex × T)) (t : T) (h : Heap) : Res (Ex × T) :=
lt (sqK (J_trace_Agree_3 P call fuel k) k) fun k24 =>
lt (blkK 1 k24) fun k25 =>
arb (.val (t 18) h) call fun v_26 h27 =>
arb (.of (ixsR 1 (t 16) (t 18)) h27) call fun v_28 h29 =>
arb (.of (ld1 h29 v_28) h29) call fun v_30 h31 =>
arb (.val v_26 h31) call fun i_32 h33 =>
arb (.val v_30 h33) call fun a_34 h35 =>
arb (.val (.mp h35.next) (Heap.new h35 true [])) call fun v_36 h37 =>
arb (.val v_36 h37) call fun at_38 h39 =>
lt (sqK (J_trace_Agree_4 P call fuel k25) k25) fun k129 =>
arb (.val a_34 h39) call fun v_130 h131 =>
arb (.of (lenL v_130) h131) call fun v_132 h133 =>
arb (.val (.int .i64 0) h133) call fun v_134 h135 =>
lt (blkK 2 k129) fun k136 =>
(loopN (L_trace_Agree_12 P call fuel) fuel (upd (upd (upd (upd (upd (upd (upd (upd (upd (upd t 20 v_26) 21 v_28) 22 v_30) 4 i_32) 5 a_34) 23 v_36) 6 at_38) 24 v_130) 25 v_132) 26 v_134) h135).bind (lpK k136)

def L_trace_Agree_1 (P : Program) (call : FuncId → List AVal → Heap → Res AVal) (fuel : Nat) (t : T) (h : Heap) : Res (Ex × T) :=
lt okK fun k =>
arb (.of (aBin P .lss 3 (.tmp 18) (.tmp 17) (t 18) (t 17)) h) call fun v_18 h19 =>
lt (sqK (J_trace_Agree_2 P call fuel k) k) fun k168 =>
cb v_18 (
k168 .normal (upd t 19 v_18) h19) (
k168 (.exit 0) (upd t 19 v_18) h19)

def S_trace_Agree (P : Program) (call : FuncId → List AVal → Heap → Res AVal) (fuel : Nat) (l_a0 : AVal) (h : Heap) : Res AVal :=
lt (retK P [.tmp 2]) fun k =>
arb (.val (.bool false) h) call fun v_0 h1 =>
arb (.val l_a0 h1) call fun v_2 h3 =>
arb (.call F_trace_rows [v_2] h3) call fun v_4 h5 =>
arb (.val v_4 h5) call fun all_6 h7 =>
lt (sqK (J_trace_Agree_0 P call fuel k) k) fun k10 =>
arb (.val all_6 h7) call fun v_11 h12 =>
arb (.of (lenL v_11) h12) call fun v_13 h14 =>
arb (.val (.int .i64 0) h14) call fun v_15 h16 =>
lt (blkK 0 k10) fun k17 =>
(loopN (L_trace_Agree_1 P call fuel) fuel (upd (upd (upd (upd (upd (upd (upd (enterT [l_a0]) 2 v_0) 14 v_2) 15 v_4) 3 all_6) 16 v_11) 17 v_13) 18 v_15) h16).bind (lpK k17)
theorem E_trace_Agree (call : FuncId → List AVal → Heap → Res AVal) (fuel : Nat) (l_a0 : AVal) (h : Heap) : bodyR Try.prog call fuel Try.f12 [l_a0] h = S_trace_Agree Try.prog call fuel l_a0 h := by kernel_rfl
theorem R_trace_Agree {X : XTab} (l_a0 : AVal) {h : Heap} {Q : AVal → Heap → Prop} (hx : X F_trace_Agree [l_a0] = none) (q : Tells (fun m => S_trace_Agree Try.prog (acallX Try.prog X m) m l_a0 h) Q) :
    Tells (fun m => acallX Try.prog X m F_trace_Agree [l_a0] h) Q :=
  Tells.later (q.le fun m => (E_trace_Agree (acallX Try.prog X m) m l_a0 h) ▸ acallX_le Try.func12 hx m h)

/-! ### precentor/trace.Once -/
def J_trace_Once_0 (P : Program) (call : FuncId → List AVal → Heap → Res AVal) (fuel : Nat) (k : Kn (AVal)) (t : T) (h : Heap) : Res (AVal) :=
arb (.val (.bool true) h) call fun v_10 h11 =>
k .ret (upd t 2 v_10) h11

def J_trace_Once_3 (P : Program) (call : FuncId → List AVal → Heap → Res AVal) (fuel : Nat) (k : Kn (Ex × T)) (t : T) (h : Heap) : Res (Ex × T) :=
arb (.of (aBin P .add 3 (.tmp 12) (.const (.int .i64 1)) (t 12) (.int .i64 1)) h) call fun v_22 h23 =>
arb (.val v_22 h23) call fun v_24 h25 =>
k .normal (upd (upd t 46 v_22) 12 v_24) h25

def J_trace_Once_4 (P : Program) (call : FuncId → List AVal → Heap → Res AVal) (fuel : Nat) (k : Kn (Ex × T)) (t : T) (h : Heap) : Res (Ex × T) :=
obv (.val (t 4) h) fun v_44 =>
obv (.of (ldn 4 h (t 6)) h) fun v_46 => ifb true <|
obv (.of (aLookup P h 54 v_44 v_46 false) h) fun v_48 => ifb true <|
obv (.of (aBin P .add 3 (.tmp 32) (.const (.int .i64 1)) v_48 (.int .i64 1)) h) fun v_50 =>
arbE (aMapEntry P h 54 v_44 v_46) call fun v_52 h53 => lt h53 fun g53 => ifb (true && (isV v_48 (arVal (.of (aLookup P g53 54 v_44 v_46 false) g53)) && true)) <|
obv (extR v_52 1 g53) fun v_54 =>
arbE (aEntryStore g53 v_44 v_54 v_50) call fun v_56 h57 => lt h57 fun g57 => ifb (true && true) <|
arb (.val (t 4) g57) call fun v_58 h59 =>
arb (.of (ldn 4 h59 (t 6)) h59) call fun v_60 h61 =>
arb (.of (aLookup P h61 54 v_58 v_60 false) h61) call fun v_62 h63 =>
arb (.of (aBin P .gtr 3 (.tmp 38) (.const (.int .i64 1)) v_62 (.int .i64 1)) h63) call fun v_64 h65 =>
arb (.val v_64 h65) call fun v_66 h67 =>
gd (wantB v_66 false) (fun c => arb (.val (t 3) h67) call c) h67 fun v_68 h69 =>
gd (wantB v_66 false) (fun c => arb (.of (ldn 2 h69 (t 7)) h69) call c) h69 fun v_70 h71 =>
gd (wantB v_66 false) (fun c => arb (.of (aLookup P h71 47 v_68 v_70 false) h71) call c) h71 fun v_72 h73 =>
gd (wantB v_66 false) (fun c => arb (.of (aBin P .eql 3 (.tmp 43) (.const (.int .i64 0)) v_72 (.int .i64 0)) h73) call c) h73 fun v_74 h75 =>
arb (pkR v_66 (.bool true) v_74 h75) call fun v_76 h77 =>
cb v_76 (
arb (.val (.bool false) h77) call fun v_78 h79 =>
k .ret (upd (upd (upd (upd (upd (upd (upd (upd (upd (upd (upd (upd (upd (upd (upd (upd (upd t 30 v_44) 31 v_46) 32 v_48) 33 v_50) 34 v_52) 35 v_54) 36 v_58) 37 v_60) 38 v_62) 39 v_64) 40 v_66) 41 v_68) 42 v_70) 43 v_72) 44 v_74) 45 v_76) 2 v_78) h79) (
k .normal (upd (upd (upd (upd (upd (upd (upd (upd (upd (upd (upd (upd (upd (upd (upd (upd t 30 v_44) 31 v_46) 32 v_48) 33 v_50) 34 v_52) 35 v_54) 36 v_58) 37 v_60) 38 v_62) 39 v_64) 40 v_66) 41 v_68) 42 v_70) 43 v_72) 44 v_74) 45 v_76) h77)

def J_trace_Once_5 (P : Program) (call : FuncId → List AVal → Heap → Res AVal) (fuel : Nat) (k : Kn (Ex × T)) (t : T) (h : Heap) : Res (Ex × T) :=
k (.exit 1) t h

def J_trace_Once_2 (P : Program) (call : FuncId → List AVal → Heap → Res AVal) (fuel : Nat) (k : Kn (Ex × T)) (t : T) (h : Heap) : Res (Ex × T) :=
lt (sqK (J_trace_Once_3 P call fuel k) k) fun k26 =>
lt (blkK 1 k26) fun k27 =>
arb (.of (ixsR 4 (t 10) (t 12)) h) call fun v_28 h29 =>
arb (.of (ldn 4 h29 v_28) h29) call fun v_30 h31 =>
arb (newR [(.bool false), (.int .i64 0), (.int .i64 0), (.int .i64 0)] h31) call fun m_32 h33 =>
arb (stR 4 h33 m_32 v_30) call fun v_34 h35 =>
arb (.of (ldn 4 h35 m_32) h35) call fun v_36 h37 =>
arb (.call F_trace_id [v_36] h37) call fun v_38 h39 =>
arb (newR [(.int .i64 0), (.int .i64 0)] h39) call fun x_40 h41 =>
arb (stR 2 h41 x_40 v_38) call fun v_42 h43 =>
lt (sqK (J_trace_Once_4 P call fuel k27) k27) fun k80 =>
arb (.of (fadR 0 m_32) h43) call fun v_81 h82 =>
arb (.of (ld1 h82 v_81) h82) call fun v_83 h84 =>
cb v_83 (
obv (.val (t 3) h84) fun v_85 =>
obv (.of (ldn 2 h84 x_40) h84) fun v_87 => ifb true <|
obv (.of (aLookup P h84 47 v_85 v_87 false) h84) fun v_89 => ifb true <|
obv (.of (aBin P .add 3 (.tmp 22) (.const (.int .i64 1)) v_89 (.int .i64 1)) h84) fun v_91 =>
arbE (aMapEntry P h84 47 v_85 v_87) call fun v_93 h94 => lt h94 fun g94 => ifb (true && (isV v_89 (arVal (.of (aLookup P g94 47 v_85 v_87 false) g94)) && true)) <|
obv (extR v_93 1 g94) fun v_95 =>
arbE (aEntryStore g94 v_85 v_95 v_91) call fun v_97 h98 => lt h98 fun g98 => ifb (true && true) <|
lt (sqK (J_trace_Once_5 P call fuel k80) k80) fun k99 =>
arb (.val (t 3) g98) call fun v_100 h101 =>
arb (.of (ldn 2 h101 x_40) h101) call fun v_102 h103 =>
arb (.of (aLookup P h103 47 v_100 v_102 false) h103) call fun v_104 h105 =>
arb (.of (aBin P .gtr 3 (.tmp 28) (.const (.int .i64 1)) v_104 (.int .i64 1)) h105) call fun v_106 h107 =>
cb v_106 (
arb (.val (.bool false) h107) call fun v_108 h109 =>
k99 .ret (upd (upd (upd (upd (upd (upd (upd (upd (upd (upd (upd (upd (upd (upd (upd (upd (upd (upd (upd t 14 v_28) 15 v_30) 6 m_32) 16 v_36) 17 v_38) 7 x_40) 18 v_81) 19 v_83) 20 v_85) 21 v_87) 22 v_89) 23 v_91) 24 v_93) 25 v_95) 26 v_100) 27 v_102) 28 v_104) 29 v_106) 2 v_108) h109) (
k99 .normal (upd (upd (upd (upd (upd (upd (upd (upd (upd (upd (upd (upd (upd (upd (upd (upd (upd (upd t 14 v_28) 15 v_30) 6 m_32) 16 v_36) 17 v_38) 7 x_40) 18 v_81) 19 v_83) 20 v_85) 21 v_87) 22 v_89) 23 v_91) 24 v_93) 25 v_95) 26 v_100) 27 v_102) 28 v_104) 29 v_106) h107)) (
k80 .normal (upd (upd (upd (upd (upd (upd (upd (upd t 14 v_28) 15 v_30) 6 m_32) 16 v_36) 17 v_38) 7 x_40) 18 v_81) 19 v_83) h84)

def L_trace_Once_1 (P : Program) (call : FuncId → List AVal → Heap → Res AVal) (fuel : Nat) (t : T) (h : Heap) : Res (Ex × T) :=
lt okK fun k =>
arb (.of (aBin P .lss 3 (.tmp 12) (.tmp 11) (t 12) (t 11)) h) call fun v_20 h21 =>
lt (sqK (J_trace_Once_2 P call fuel k) k) fun k110 =>
cb v_20 (
k110 .normal (upd t 13 v_20) h21) (
k110 (.exit 0) (upd t 13 v_20) h21)

def S_trace_Once (P : Program) (call : FuncId → List AVal → Heap → Res AVal) (fuel : Nat) (l_a0 : AVal) (h : Heap) : Res AVal :=
lt (retK P [.tmp 2]) fun k =>
arb (.val (.bool false) h) call fun v_0 h1 =>
arb (.val (.mp h1.next) (Heap.new h1 true [])) call fun v_2 h3 =>
arb (.val (.mp h3.next) (Heap.new h3 true [])) call fun v_4 h5 =>
arb (.val v_2 h5) call fun sent_6 h7 =>
arb (.val v_4 h7) call fun heard_8 h9 =>
lt (sqK (J_trace_Once_0 P call fuel k) k) fun k12 =>
arb (.val l_a0 h9) call fun v_13 h14 =>
arb (.of (lenL v_13) h14) call fun v_15 h16 =>
arb (.val (.int .i64 0) h16) call fun v_17 h18 =>
lt (blkK 0 k12) fun k19 =>
(loopN (L_trace_Once_1 P call fuel) fuel (upd (upd (upd (upd (upd (upd (upd (upd (enterT [l_a0]) 2 v_0) 8 v_2) 9 v_4) 3 sent_6) 4 heard_8) 10 v_13) 11 v_15) 12 v_17) h18).bind (lpK k19)
theorem E_trace_Once (call : FuncId → List AVal → Heap → Res AVal) (fuel : Nat) (l_a0 : AVal) (h : Heap) : bodyR Try.prog call fuel Try.f13 [l_a0] h = S_trace_Once Try.prog call fuel l_a0 h := by kernel_rfl
theorem R_trace_Once {X : XTab} (l_a0 : AVal) {h : Heap} {Q : AVal → Heap → Prop} (hx : X F_trace_Once [l_a0] = none) (q : Tells (fun m => S_trace_Once Try.prog (acallX Try.prog X m) m l_a0 h) Q) :
    Tells (fun m => acallX Try.prog X m F_trace_Once [l_a0] h) Q :=
  Tells.later (q.le fun m => (E_trace_Once (acallX Try.prog X m) m l_a0 h) ▸ acallX_le Try.func13 hx m h)

/-! ### precentor/trace.Causal -/
def J_trace_Causal_0 (P : Program) (call : FuncId → List AVal → Heap → Res AVal) (fuel : Nat) (k : Kn (AVal)) (t : T) (h : Heap) : Res (AVal) :=
arb (.val (.bool true) h) call fun v_8 h9 =>
k .ret (upd t 2 v_8) h9

def J_trace_Causal_3 (P : Program) (call : FuncId → List AVal → Heap → Res AVal) (fuel : Nat) (k : Kn (Ex × T)) (t : T) (h : Heap) : Res (Ex × T) :=
arb (.of (aBin P .add 3 (.tmp 17) (.const (.int .i64 1)) (t 17) (.int .i64 1)) h) call fun v_20 h21 =>
arb (.val v_20 h21) call fun v_22 h23 =>
k .normal (upd (upd t 57 v_20) 17 v_22) h23

def J_trace_Causal_7 (P : Program) (call : FuncId → List AVal → Heap → Res AVal) (fuel : Nat) (k : Kn (Ex × T)) (t : T) (h : Heap) : Res (Ex × T) :=
arb (.of (aBin P .add 3 (.tmp 36) (.const (.int .i64 1)) (t 36) (.int .i64 1)) h) call fun v_45 h46 =>
arb (.val v_45 h46) call fun v_47 h48 =>
k .normal (upd (upd t 56 v_45) 36 v_47) h48

def J_trace_Causal_10 (P : Program) (call : FuncId → List AVal → Heap → Res AVal) (fuel : Nat) (k : Kn (Ex × T)) (t : T) (h : Heap) : Res (Ex × T) :=
arb (.of (aBin P .add 3 (.tmp 45) (.const (.int .i64 1)) (t 45) (.int .i64 1)) h) call fun v_76 h77 =>
arb (.val v_76 h77) call fun v_78 h79 =>
k .normal (upd (upd t 55 v_76) 45 v_78) h79

def J_trace_Causal_9 (P : Program) (call : FuncId → List AVal → Heap → Res AVal) (fuel : Nat) (k : Kn (Ex × T)) (t : T) (h : Heap) : Res (Ex × T) :=
lt (sqK (J_trace_Causal_10 P call fuel k) k) fun k80 =>
lt (blkK 7 k80) fun k81 =>
arb (.of (ixsR 2 (t 43) (t 45)) h) call fun v_82 h83 =>
arb (.of (ldn 2 h83 v_82) h83) call fun v_84 h85 =>
arb (newR [(.int .i64 0), (.int .i64 0)] h85) call fun y_86 h87 =>
arb (stR 2 h87 y_86 v_84) call fun v_88 h89 =>
arb (.val (t 6) h89) call fun v_90 h91 =>
arb (.of (ldn 2 h91 y_86) h91) call fun v_92 h93 =>
arb (.of (aLookup P h93 47 v_90 v_92 false) h93) call fun v_94 h95 =>
arb (.val (t 9) h95) call fun v_96 h97 =>
arb (.of (aBin P .add 3 (.tmp 52) (.const (.int .i64 1)) v_96 (.int .i64 1)) h97) call fun v_98 h99 =>
arb (.of (aBin P .gtr 3 (.tmp 51) (.tmp 53) v_94 v_98) h99) call fun v_100 h101 =>
cb v_100 (
arb (.val (.bool false) h101) call fun v_102 h103 =>
k81 .ret (upd (upd (upd (upd (upd (upd (upd (upd (upd (upd t 47 v_82) 48 v_84) 12 y_86) 49 v_90) 50 v_92) 51 v_94) 52 v_96) 53 v_98) 54 v_100) 2 v_102) h103) (
k81 .normal (upd (upd (upd (upd (upd (upd (upd (upd (upd t 47 v_82) 48 v_84) 12 y_86) 49 v_90) 50 v_92) 51 v_94) 52 v_96) 53 v_98) 54 v_100) h101)

def L_trace_Causal_8 (P : Program) (call : FuncId → List AVal → Heap → Res AVal) (fuel : Nat) (t : T) (h : Heap) : Res (Ex × T) :=
lt okK fun k =>
arb (.of (aBin P .lss 3 (.tmp 45) (.tmp 44) (t 45) (t 44)) h) call fun v_74 h75 =>
lt (sqK (J_trace_Causal_9 P call fuel k) k) fun k104 =>
cb v_74 (
k104 .normal (upd t 46 v_74) h75) (
k104 (.exit 6) (upd t 46 v_74) h75)

def J_trace_Causal_6 (P : Program) (call : FuncId → List AVal → Heap → Res AVal) (fuel : Nat) (k : Kn (Ex × T)) (t : T) (h : Heap) : Res (Ex × T) :=
lt (sqK (J_trace_Causal_7 P call fuel k) k) fun k49 =>
lt (blkK 5 k49) fun k50 =>
arb (.val (t 36) h) call fun v_51 h52 =>
arb (.of (ixsR 2 (t 34) (t 36)) h52) call fun v_53 h54 =>
arb (.of (ldn 2 h54 v_53) h54) call fun v_55 h56 =>
arb (newR [(.int .i64 0), (.int .i64 0)] h56) call fun x_57 h58 =>
arb (.val v_51 h58) call fun k_59 h60 =>
arb (stR 2 h60 x_57 v_55) call fun v_61 h62 =>
arb (.val (t 0) h62) call fun v_63 h64 =>
arb (.of (ldn 2 h64 x_57) h64) call fun v_65 h66 =>
arb (.call F_trace_Causes [v_63, v_65] h66) call fun v_67 h68 =>
arb (.of (lenL v_67) h68) call fun v_69 h70 =>
arb (.val (.int .i64 0) h70) call fun v_71 h72 =>
lt (blkK 6 k50) fun k73 =>
(loopN (L_trace_Causal_8 P call fuel) fuel (upd (upd (upd (upd (upd (upd (upd (upd (upd (upd t 38 v_51) 39 v_53) 40 v_55) 10 x_57) 9 k_59) 41 v_63) 42 v_65) 43 v_67) 44 v_69) 45 v_71) h72).bind (lpK k73)

def L_trace_Causal_5 (P : Program) (call : FuncId → List AVal → Heap → Res AVal) (fuel : Nat) (t : T) (h : Heap) : Res (Ex × T) :=
lt okK fun k =>
arb (.of (aBin P .lss 3 (.tmp 36) (.tmp 35) (t 36) (t 35)) h) call fun v_43 h44 =>
lt (sqK (J_trace_Causal_6 P call fuel k) k) fun k105 =>
cb v_43 (
k105 .normal (upd t 37 v_43) h44) (
k105 (.exit 4) (upd t 37 v_43) h44)

def J_trace_Causal_4 (P : Program) (call : FuncId → List AVal → Heap → Res AVal) (fuel : Nat) (k : Kn (Ex × T)) (t : T) (h : Heap) : Res (Ex × T) :=
arb (.val (t 5) h) call fun v_36 h37 =>
arb (.of (lenL v_36) h37) call fun v_38 h39 =>
arb (.val (.int .i64 0) h39) call fun v_40 h41 =>
lt (blkK 4 k) fun k42 =>
(loopN (L_trace_Causal_5 P call fuel) fuel (upd (upd (upd t 34 v_36) 35 v_38) 36 v_40) h41).bind (lpK k42)

def J_trace_Causal_13 (P : Program) (call : FuncId → List AVal → Heap → Res AVal) (fuel : Nat) (k : Kn (Ex × T)) (t : T) (h : Heap) : Res (Ex × T) :=
arb (.of (aBin P .add 3 (.tmp 24) (.const (.int .i64 1)) (t 24) (.int .i64 1)) h) call fun v_116 h117 =>
arb (.val v_116 h117) call fun v_118 h119 =>
k .normal (upd (upd t 33 v_116) 24 v_118) h119

def J_trace_Causal_12 (P : Program) (call : FuncId → List AVal → Heap → Res AVal) (fuel : Nat) (k : Kn (Ex × T)) (t : T) (h : Heap) : Res (Ex × T) :=
lt (sqK (J_trace_Causal_13 P call fuel k) k) fun k120 =>
lt (blkK 3 k120) fun k121 =>
arb (.val (t 24) h) call fun v_122 h123 =>
arb (.of (ixsR 2 (t 22) (t 24)) h123) call fun v_124 h125 =>
arb (.of (ldn 2 h125 v_124) h125) call fun v_126 h127 =>
arb (newR [(.int .i64 0), (.int .i64 0)] h127) call fun x_128 h129 =>
arb (.val v_122 h129) call fun k_130 h131 =>
arb (stR 2 h131 x_128 v_126) call fun v_132 h133 =>
arb (.val (t 6) h133) call fun v_134 h135 =>
arb (.of (ldn 2 h135 x_128) h135) call fun v_136 h137 =>
arb (.val k_130 h137) call fun v_138 h139 =>
arb (.of (aBin P .add 3 (.tmp 31) (.const (.int .i64 1)) v_138 (.int .i64 1)) h139) call fun v_140 h141 =>
arb (aMapUpdate P h141 47 v_134 v_136 v_140) call fun v_142 h143 =>
k121 .normal (upd (upd (upd (upd (upd (upd (upd (upd (upd t 26 v_122) 27 v_124) 28 v_126) 8 x_128) 7 k_130) 29 v_134) 30 v_136) 31 v_138) 32 v_140) h143

def L_trace_Causal_11 (P : Program) (call : FuncId → List AVal → Heap → Res AVal) (fuel : Nat) (t : T) (h : Heap) : Res (Ex × T) :=
lt okK fun k =>
arb (.of (aBin P .lss 3 (.tmp 24) (.tmp 23) (t 24) (t 23)) h) call fun v_114 h115 =>
lt (sqK (J_trace_Causal_12 P call fuel k) k) fun k144 =>
cb v_114 (
k144 .normal (upd t 25 v_114) h115) (
k144 (.exit 2) (upd t 25 v_114) h115)

def J_trace_Causal_2 (P : Program) (call : FuncId → List AVal → Heap → Res AVal) (fuel : Nat) (k : Kn (Ex × T)) (t : T) (h : Heap) : Res (Ex × T) :=
lt (sqK (J_trace_Causal_3 P call fuel k) k) fun k24 =>
lt (blkK 1 k24) fun k25 =>
arb (.of (ixsR 1 (t 15) (t 17)) h) call fun v_26 h27 =>
arb (.of (ld1 h27 v_26) h27) call fun v_28 h29 =>
arb (.val v_28 h29) call fun a_30 h31 =>
arb (.val (.mp h31.next) (Heap.new h31 true [])) call fun v_32 h33 =>
arb (.val v_32 h33) call fun at_34 h35 =>
lt (sqK (J_trace_Causal_4 P call fuel k25) k25) fun k106 =>
arb (.val a_30 h35) call fun v_107 h108 =>
arb (.of (lenL v_107) h108) call fun v_109 h110 =>
arb (.val (.int .i64 0) h110) call fun v_111 h112 =>
lt (blkK 2 k106) fun k113 =>
(loopN (L_trace_Causal_11 P call fuel) fuel (upd (upd (upd (upd (upd (upd (upd (upd t 19 v_26) 20 v_28) 5 a_30) 21 v_32) 6 at_34) 22 v_107) 23 v_109) 24 v_111) h112).bind (lpK k113)

def L_trace_Causal_1 (P : Program) (call : FuncId → List AVal → Heap → Res AVal) (fuel : Nat) (t : T) (h : Heap) : Res (Ex × T) :=
lt okK fun k =>
arb (.of (aBin P .lss 3 (.tmp 17) (.tmp 16) (t 17) (t 16)) h) call fun v_18 h19 =>
lt (sqK (J_trace_Causal_2 P call fuel k) k) fun k145 =>
cb v_18 (
k145 .normal (upd t 18 v_18) h19) (
k145 (.exit 0) (upd t 18 v_18) h19)

def S_trace_Causal (P : Program) (call : FuncId → List AVal → Heap → Res AVal) (fuel : Nat) (l_a0 : AVal) (h : Heap) : Res AVal :=
lt (retK P [.tmp 2]) fun k =>
arb (.val (.bool false) h) call fun v_0 h1 =>
arb (.val l_a0 h1) call fun v_2 h3 =>
arb (.call F_trace_rows [v_2] h3) call fun v_4 h5 =>
arb (.val v_4 h5) call fun all_6 h7 =>
lt (sqK (J_trace_Causal_0 P call fuel k) k) fun k10 =>
arb (.val all_6 h7) call fun v_11 h12 =>
arb (.of (lenL v_11) h12) call fun v_13 h14 =>
arb (.val (.int .i64 0) h14) call fun v_15 h16 =>
lt (blkK 0 k10) fun k17 =>
(loopN (L_trace_Causal_1 P call fuel) fuel (upd (upd (upd (upd (upd (upd (upd (enterT [l_a0]) 2 v_0) 13 v_2) 14 v_4) 3 all_6) 15 v_11) 16 v_13) 17 v_15) h16).bind (lpK k17)
theorem E_trace_Causal (call : FuncId → List AVal → Heap → Res AVal) (fuel : Nat) (l_a0 : AVal) (h : Heap) : bodyR Try.prog call fuel Try.f14 [l_a0] h = S_trace_Causal Try.prog call fuel l_a0 h := by kernel_rfl
theorem R_trace_Causal {X : XTab} (l_a0 : AVal) {h : Heap} {Q : AVal → Heap → Prop} (hx : X F_trace_Causal [l_a0] = none) (q : Tells (fun m => S_trace_Causal Try.prog (acallX Try.prog X m) m l_a0 h) Q) :
    Tells (fun m => acallX Try.prog X m F_trace_Causal [l_a0] h) Q :=
  Tells.later (q.le fun m => (E_trace_Causal (acallX Try.prog X m) m l_a0 h) ▸ acallX_le Try.func14 hx m h)

/-! ### precentor/trace.Heard -/
def J_trace_Heard_0 (P : Program) (call : FuncId → List AVal → Heap → Res AVal) (fuel : Nat) (k : Kn (AVal)) (t : T) (h : Heap) : Res (AVal) :=
arb (.val (t 5) h) call fun v_4 h5 =>
arb (.val v_4 h5) call fun v_6 h7 =>
k .ret (upd (upd t 29 v_4) 4 v_6) h7

def J_trace_Heard_3 (P : Program) (call : FuncId → List AVal → Heap → Res AVal) (fuel : Nat) (k : Kn (Ex × T)) (t : T) (h : Heap) : Res (Ex × T) :=
arb (.of (aBin P .add 3 (.tmp 10) (.const (.int .i64 1)) (t 10) (.int .i64 1)) h) call fun v_18 h19 =>
arb (.val v_18 h19) call fun v_20 h21 =>
k .normal (upd (upd t 28 v_18) 10 v_20) h21

def J_trace_Heard_2 (P : Program) (call : FuncId → List AVal → Heap → Res AVal) (fuel : Nat) (k : Kn (Ex × T)) (t : T) (h : Heap) : Res (Ex × T) :=
lt (sqK (J_trace_Heard_3 P call fuel k) k) fun k22 =>
lt (blkK 1 k22) fun k23 =>
arb (.of (ixsR 4 (t 8) (t 10)) h) call fun v_24 h25 =>
arb (.of (ldn 4 h25 v_24) h25) call fun v_26 h27 =>
arb (newR [(.bool false), (.int .i64 0), (.int .i64 0), (.int .i64 0)] h27) call fun m_28 h29 =>
arb (stR 4 h29 m_28 v_26) call fun v_30 h31 =>
arb (.of (fadR 0 m_28) h31) call fun v_32 h33 =>
arb (.of (ld1 h33 v_32) h33) call fun v_34 h35 =>
arb (.of (aUn P .not v_34) h35) call fun v_36 h37 =>
arb (.val v_36 h37) call fun v_38 h39 =>
gd (wantB v_38 true) (fun c => arb (.of (fadR 1 m_28) h39) call c) h39 fun v_40 h41 =>
gd (wantB v_38 true) (fun c => arb (.of (ld1 h41 v_40) h41) call c) h41 fun v_42 h43 =>
gd (wantB v_38 true) (fun c => arb (.val (t 1) h43) call c) h43 fun v_44 h45 =>
gd (wantB v_38 true) (fun c => arb (.of (aBin P .eql 3 (.tmp 19) (.tmp 20) v_42 v_44) h45) call c) h45 fun v_46 h47 =>
arb (pkR v_38 v_46 (.bool false) h47) call fun v_48 h49 =>
cb v_48 (
arb (.val (t 5) h49) call fun v_50 h51 =>
arb (.of (ldn 4 h51 m_28) h51) call fun v_52 h53 =>
arb (.call F_trace_id [v_52] h53) call fun v_54 h55 =>
arb (bslR 2 [(.int .i64 0), (.int .i64 0)] 1 h55 [(0, 2, v_54)]) call fun v_56 h57 =>
arb (appR 2 16 h57 v_50 v_56) call fun v_58 h59 =>
arb (.val v_58 h59) call fun out_60 h61 =>
k23 .normal (upd (upd (upd (upd (upd (upd (upd (upd (upd (upd (upd (upd (upd (upd (upd (upd (upd (upd t 12 v_24) 13 v_26) 7 m_28) 14 v_32) 15 v_34) 16 v_36) 17 v_38) 18 v_40) 19 v_42) 20 v_44) 21 v_46) 22 v_48) 23 v_50) 24 v_52) 25 v_54) 26 v_56) 27 v_58) 5 out_60) h61) (
k23 .normal (upd (upd (upd (upd (upd (upd (upd (upd (upd (upd (upd (upd t 12 v_24) 13 v_26) 7 m_28) 14 v_32) 15 v_34) 16 v_36) 17 v_38) 18 v_40) 19 v_42) 20 v_44) 21 v_46) 22 v_48) h49)

def L_trace_Heard_1 (P : Program) (call : FuncId → List AVal → Heap → Res AVal) (fuel : Nat) (t : T) (h : Heap) : Res (Ex × T) :=
lt okK fun k =>
arb (.of (aBin P .lss 3 (.tmp 10) (.tmp 9) (t 10) (t 9)) h) call fun v_16 h17 =>
lt (sqK (J_trace_Heard_2 P call fuel k) k) fun k62 =>
cb v_16 (
k62 .normal (upd t 11 v_16) h17) (
k62 (.exit 0) (upd t 11 v_16) h17)

def S_trace_Heard (P : Program) (call : FuncId → List AVal → Heap → Res AVal) (fuel : Nat) (l_a0 client_a1 : AVal) (h : Heap) : Res AVal :=
lt (retK P [.tmp 4]) fun k =>
arb (.val .nils h) call fun v_0 h1 =>
arb (.val .nils h1) call fun out_2 h3 =>
lt (sqK (J_trace_Heard_0 P call fuel k) k) fun k8 =>
arb (.val l_a0 h3) call fun v_9 h10 =>
arb (.of (lenL v_9) h10) call fun v_11 h12 =>
arb (.val (.int .i64 0) h12) call fun v_13 h14 =>
lt (blkK 0 k8) fun k15 =>
(loopN (L_trace_Heard_1 P call fuel) fuel (upd (upd (upd (upd (upd (enterT [l_a0, client_a1]) 4 v_0) 5 out_2) 8 v_9) 9 v_11) 10 v_13) h14).bind (lpK k15)
theorem E_trace_Heard (call : FuncId → List AVal → Heap → Res AVal) (fuel : Nat) (l_a0 client_a1 : AVal) (h : Heap) : bodyR Try.prog call fuel Try.f15 [l_a0, client_a1] h = S_trace_Heard Try.prog call fuel l_a0 client_a1 h := by kernel_rfl
theorem R_trace_Heard {X : XTab} (l_a0 client_a1 : AVal) {h : Heap} {Q : AVal → Heap → Prop} (hx : X F_trace_Heard [l_a0, client_a1] = none) (q : Tells (fun m => S_trace_Heard Try.prog (acallX Try.prog X m) m l_a0 client_a1 h) Q) :
    Tells (fun m => acallX Try.prog X m F_trace_Heard [l_a0, client_a1] h) Q :=
  Tells.later (q.le fun m => (E_trace_Heard (acallX Try.prog X m) m l_a0 client_a1 h) ▸ acallX_le Try.func15 hx m h)

/-! ### precentor/trace.first -/
def J_trace_first_0 (P : Program) (call : FuncId → List AVal → Heap → Res AVal) (fuel : Nat) (k : Kn (AVal)) (t : T) (h : Heap) : Res (AVal) :=
arb (.val (.int .i64 (-1)) h) call fun v_4 h5 =>
k .ret (upd t 4 v_4) h5

def J_trace_first_3 (P : Program) (call : FuncId → List AVal → Heap → Res AVal) (fuel : Nat) (k : Kn (Ex × T)) (t : T) (h : Heap) : Res (Ex × T) :=
arb (.of (aBin P .add 3 (.tmp 9) (.const (.int .i64 1)) (t 9) (.int .i64 1)) h) call fun v_16 h17 =>
arb (.val v_16 h17) call fun v_18 h19 =>
k .normal (upd (upd t 23 v_16) 9 v_18) h19

def J_trace_first_2 (P : Program) (call : FuncId → List AVal → Heap → Res AVal) (fuel : Nat) (k : Kn (Ex × T)) (t : T) (h : Heap) : Res (Ex × T) :=
lt (sqK (J_trace_first_3 P call fuel k) k) fun k20 =>
lt (blkK 1 k20) fun k21 =>
arb (.val (t 9) h) call fun v_22 h23 =>
arb (.of (ixsR 4 (t 7) (t 9)) h23) call fun v_24 h25 =>
arb (.of (ldn 4 h25 v_24) h25) call fun v_26 h27 =>
arb (newR [(.bool false), (.int .i64 0), (.int .i64 0), (.int .i64 0)] h27) call fun m_28 h29 =>
arb (.val v_22 h29) call fun i_30 h31 =>
arb (stR 4 h31 m_28 v_26) call fun v_32 h33 =>
obv (.of (fadR 0 m_28) h33) fun v_34 =>
obv (.of (ld1 h33 v_34) h33) fun v_36 => ifb true <|
obv (.val v_36 h33) fun v_38 =>
gdr (wantB v_38 true) (fun c => obv (.of (ldn 4 h33 m_28) h33) fun v_40 => ifb true <|
c true v_40 h33) h33 fun w42 v_40 h42 =>
gdr (wantB v_38 true) (fun c => arbE (.call F_trace_id [v_40] h42) call fun v_43 h44 => lt h44 fun g44 => ifb (true && true) <|
c true v_43 g44) h42 fun w45 v_43 h45 =>
gdr (wantB v_38 true) (fun c => obv (.of (ldn 2 h45 (t 3)) h45) fun v_46 => ifb ((!w45 || isV v_46 (arVal (.of (ldn 2 h42 (t 3)) h42))) && true) <|
c true v_46 h45) h45 fun w48 v_46 h48 =>
gdr (wantB v_38 true) (fun c => obv (.of (aBin P .eql 30 (.tmp 18) (.tmp 19) v_43 v_46) h48) fun v_49 =>
c true v_49 h48) h48 fun w51 v_49 h51 =>
obv (pkR v_38 v_49 (.bool false) h51) fun v_52 =>
cb v_52 (
arb (.val i_30 h51) call fun v_54 h55 =>
arb (.val v_54 h55) call fun v_56 h57 =>
k21 .ret (upd (upd (upd (upd (upd (upd (upd (upd (upd (upd (upd (upd (upd (upd (upd t 11 v_22) 12 v_24) 13 v_26) 6 m_28) 5 i_30) 14 v_34) 15 v_36) 16 v_38) 17 v_40) 18 v_43) 19 v_46) 20 v_49) 21 v_52) 22 v_54) 4 v_56) h57) (
k21 .normal (upd (upd (upd (upd (upd (upd (upd (upd (upd (upd (upd (upd (upd t 11 v_22) 12 v_24) 13 v_26) 6 m_28) 5 i_30) 14 v_34) 15 v_36) 16 v_38) 17 v_40) 18 v_43) 19 v_46) 20 v_49) 21 v_52) h51)

def L_trace_first_1 (P : Program) (call : FuncId → List AVal → Heap → Res AVal) (fuel : Nat) (t : T) (h : Heap) : Res (Ex × T) :=
lt okK fun k =>
arb (.of (aBin P .lss 3 (.tmp 9) (.tmp 8) (t 9) (t 8)) h) call fun v_14 h15 =>
lt (sqK (J_trace_first_2 P call fuel k) k) fun k58 =>
cb v_14 (
k58 .normal (upd t 10 v_14) h15) (
k58 (.exit 0) (upd t 10 v_14) h15)

def S_trace_first (P : Program) (call : FuncId → List AVal → Heap → Res AVal) (fuel : Nat) (l_a0 x_a1 : AVal) (h : Heap) : Res AVal :=
lt (retK P [.tmp 4]) fun k =>
arb (boxR x_a1 h) call fun x_0 h1 =>
arb (.val (.int .i64 0) h1) call fun v_2 h3 =>
lt (sqK (J_trace_first_0 P call fuel k) k) fun k6 =>
arb (.val l_a0 h3) call fun v_7 h8 =>
arb (.of (lenL v_7) h8) call fun v_9 h10 =>
arb (.val (.int .i64 0) h10) call fun v_11 h12 =>
lt (blkK 0 k6) fun k13 =>
(loopN (L_trace_first_1 P call fuel) fuel (upd (upd (upd (upd (upd (enterT [l_a0, x_a1]) 3 x_0) 4 v_2) 7 v_7) 8 v_9) 9 v_11) h12).bind (lpK k13)
theorem E_trace_first (call : FuncId → List AVal → Heap → Res AVal) (fuel : Nat) (l_a0 x_a1 : AVal) (h : Heap) : bodyR Try.prog call fuel Try.f27 [l_a0, x_a1] h = S_trace_first Try.prog call fuel l_a0 x_a1 h := by kernel_rfl
theorem R_trace_first {X : XTab} (l_a0 x_a1 : AVal) {h : Heap} {Q : AVal → Heap → Prop} (hx : X F_trace_first [l_a0, x_a1] = none) (q : Tells (fun m => S_trace_first Try.prog (acallX Try.prog X m) m l_a0 x_a1 h) Q) :
    Tells (fun m => acallX Try.prog X m F_trace_first [l_a0, x_a1] h) Q :=
  Tells.later (q.le fun m => (E_trace_first (acallX Try.prog X m) m l_a0 x_a1 h) ▸ acallX_le Try.func27 hx m h)

/-! ### precentor/trace.id -/
def J_trace_id_0 (P : Program) (call : FuncId → List AVal → Heap → Res AVal) (fuel : Nat) (k : Kn (AVal)) (t : T) (h : Heap) : Res (AVal) :=
arb (.of (fadR 2 (t 1)) h) call fun v_4 h5 =>
arb (.of (ld1 h5 v_4) h5) call fun v_6 h7 =>
arb (.of (fadR 3 (t 1)) h7) call fun v_8 h9 =>
arb (.of (ld1 h9 v_8) h9) call fun v_10 h11 =>
arb (.of (bldR [(.int .i64 0), (.int .i64 0)] [(0, 1, v_6), (1, 1, v_10)]) h11) call fun v_12 h13 =>
arb (stR 2 h13 (t 2) v_12) call fun v_14 h15 =>
k .ret (upd (upd (upd (upd (upd t 10 v_4) 11 v_6) 12 v_8) 13 v_10) 14 v_12) h15

theorem C_trace_id_0 (h : Heap) (a : AVal) : aLoad Try.prog h 30 a = ldn 2 h a := by kernel_rfl
def S_trace_id (P : Program) (call : FuncId → List AVal → Heap → Res AVal) (fuel : Nat) (m_a0 : AVal) (h : Heap) : Res AVal :=
lt (retK P [.cell 2 30]) fun k =>
arb (boxR m_a0 h) call fun m_0 h1 =>
arb (newR [(.int .i64 0), (.int .i64 0)] h1) call fun v_2 h3 =>
lt (sqK (J_trace_id_0 P call fuel k) k) fun k16 =>
arb (.of (fadR 0 m_0) h3) call fun v_17 h18 =>
arb (.of (ld1 h18 v_17) h18) call fun v_19 h20 =>
cb v_19 (
arb (.of (fadR 1 m_0) h20) call fun v_21 h22 =>
arb (.of (ld1 h22 v_21) h22) call fun v_23 h24 =>
arb (.of (fadR 3 m_0) h24) call fun v_25 h26 =>
arb (.of (ld1 h26 v_25) h26) call fun v_27 h28 =>
arb (.of (bldR [(.int .i64 0), (.int .i64 0)] [(0, 1, v_23), (1, 1, v_27)]) h28) call fun v_29 h30 =>
arb (stR 2 h30 v_2 v_29) call fun v_31 h32 =>
k16 .ret (upd (upd (upd (upd (upd (upd (upd (upd (upd (enterT [m_a0]) 1 m_0) 2 v_2) 3 v_17) 4 v_19) 5 v_21) 6 v_23) 7 v_25) 8 v_27) 9 v_29) h32) (
k16 .normal (upd (upd (upd (upd (enterT [m_a0]) 1 m_0) 2 v_2) 3 v_17) 4 v_19) h20)
theorem E_trace_id (call : FuncId → List AVal → Heap → Res AVal) (fuel : Nat) (m_a0 : AVal) (h : Heap) : bodyR Try.prog call fuel Try.f28 [m_a0] h = S_trace_id Try.prog call fuel m_a0 h := by kernel_rfl
theorem R_trace_id {X : XTab} (m_a0 : AVal) {h : Heap} {Q : AVal → Heap → Prop} (hx : X F_trace_id [m_a0] = none) (q : Tells (fun m => S_trace_id Try.prog (acallX Try.prog X m) m m_a0 h) Q) :
    Tells (fun m => acallX Try.prog X m F_trace_id [m_a0] h) Q :=
  Tells.later (q.le fun m => (E_trace_id (acallX Try.prog X m) m m_a0 h) ▸ acallX_le Try.func28 hx m h)

/-! ### precentor/trace.lay -/
def J_trace_lay_1 (P : Program) (call : FuncId → List AVal → Heap → Res AVal) (fuel : Nat) (k : Kn (AVal)) (t : T) (h : Heap) : Res (AVal) :=
arb (.val (t 0) h) call fun v_6 h7 =>
arb (.val (t 5) h7) call fun v_8 h9 =>
arb (.of (slcR 2 v_6 none (some v_8) none) h9) call fun v_10 h11 =>
arb (appR 2 16 h11 .nils v_10) call fun v_12 h13 =>
arb (.val v_12 h13) call fun out_14 h15 =>
obv (.val out_14 h15) fun v_16 =>
obv (.of (ldn 2 h15 (t 3)) h15) fun v_18 => ifb true <|
arbV (bslR 2 [(.int .i64 0), (.int .i64 0)] 1 h15 [(0, 2, v_18)]) fun v_20 h21 =>
arbE (appR 2 16 h21 v_16 v_20) call fun v_22 h23 => lt h23 fun g23 => ifb (true && true) <|
obv (.val (t 0) g23) fun v_24 =>
obv (.val (t 5) g23) fun v_26 =>
obv (.of (slcR 2 v_24 (some v_26) none none) g23) fun v_28 =>
arbE (appR 2 16 g23 v_22 v_28) call fun v_30 h31 => lt h31 fun g31 => ifb (true && true) <|
obv (.val v_30 g31) fun v_32 =>
k .ret (upd (upd (upd (upd (upd (upd (upd (upd (upd (upd (upd (upd (upd (upd t 34 v_6) 35 v_8) 36 v_10) 37 v_12) 6 out_14) 38 v_16) 39 v_18) 40 v_20) 41 v_22) 42 v_24) 43 v_26) 44 v_28) 45 v_30) 4 v_32) g31

def J_trace_lay_0 (P : Program) (call : FuncId → List AVal → Heap → Res AVal) (fuel : Nat) (k : Kn (AVal)) (t : T) (h : Heap) : Res (AVal) :=
lt (sqK (J_trace_lay_1 P call fuel k) k) fun k34 =>
obv (.val (t 5) h) fun v_35 =>
obv (.val (t 0) h) fun v_36 =>
obv (.of (lenL v_36) h) fun v_37 =>
obv (.of (aBin P .lss 3 (.tmp 21) (.tmp 23) v_35 v_37) h) fun v_38 =>
obv (.val v_38 h) fun v_39 =>
gd (wantB v_39 true) (fun c => obv (.val (t 0) h) fun v => c v h) h fun v_40 h41 =>
gd (wantB v_39 true) (fun c => obv (.val (t 5) h41) fun v => c v h41) h41 fun v_42 h43 =>
gd (wantB v_39 true) (fun c => obv (.of (ixsR 2 v_40 v_42) h43) fun v => c v h43) h43 fun v_44 h45 =>
gd (wantB v_39 true) (fun c => obv (.of (ldn 2 h45 v_44) h45) fun v => c v h45) h45 fun v_46 h47 =>
gd (wantB v_39 true) (fun c => obv (.of (ldn 2 h47 (t 3)) h47) fun v => c v h47) h47 fun v_48 h49 =>
gd (wantB v_39 true) (fun c => obv (.of (aBin P .eql 30 (.tmp 29) (.tmp 30) v_46 v_48) h49) fun v => c v h49) h49 fun v_50 h51 =>
obv (pkR v_39 v_50 (.bool false) h51) fun v_52 =>
cb v_52 (
arb (.val (t 0) h51) call fun v_53 h54 =>
arb (.val v_53 h54) call fun v_55 h56 =>
k34 .ret (upd (upd (upd (upd (upd (upd (upd (upd (upd (upd (upd (upd (upd (upd t 21 v_35) 22 v_36) 23 v_37) 24 v_38) 25 v_39) 26 v_40) 27 v_42) 28 v_44) 29 v_46) 30 v_48) 31 v_50) 32 v_52) 33 v_53) 4 v_55) h56) (
k34 .normal (upd (upd (upd (upd (upd (upd (upd (upd (upd (upd (upd (upd t 21 v_35) 22 v_36) 23 v_37) 24 v_38) 25 v_39) 26 v_40) 27 v_42) 28 v_44) 29 v_46) 30 v_48) 31 v_50) 32 v_52) h51)

def J_trace_lay_3 (P : Program) (call : FuncId → List AVal → Heap → Res AVal) (fuel : Nat) (k : Kn (Ex × T)) (t : T) (h : Heap) : Res (Ex × T) :=
lt (blkK 1 k) fun k59 =>
arb (.val (t 5) h) call fun v_60 h61 =>
arb (.of (aBin P .add 3 (.tmp 19) (.const (.int .i64 1)) v_60 (.int .i64 1)) h61) call fun v_62 h63 =>
arb (.val v_62 h63) call fun at_64 h65 =>
k59 .normal (upd (upd (upd t 19 v_60) 20 v_62) 5 at_64) h65

def L_trace_lay_2 (P : Program) (call : FuncId → List AVal → Heap → Res AVal) (fuel : Nat) (t : T) (h : Heap) : Res (Ex × T) :=
lt okK fun k =>
lt (sqK (J_trace_lay_3 P call fuel k) k) fun k66 =>
obv (.val (t 5) h) fun v_67 =>
obv (.val (t 0) h) fun v_69 =>
obv (.of (lenL v_69) h) fun v_71 =>
obv (.of (aBin P .lss 3 (.tmp 7) (.tmp 9) v_67 v_71) h) fun v_73 =>
obv (.val v_73 h) fun v_75 =>
gdr (wantB v_75 true) (fun c => obv (.val (t 0) h) fun v_77 =>
c true v_77 h) h fun w79 v_77 h79 =>
gdr (wantB v_75 true) (fun c => obv (.val (t 5) h79) fun v_80 =>
c true v_80 h79) h79 fun w82 v_80 h82 =>
gdr (wantB v_75 true) (fun c => obv (.of (ixsR 2 v_77 v_80) h82) fun v_83 =>
c true v_83 h82) h82 fun w85 v_83 h85 =>
gdr (wantB v_75 true) (fun c => obv (.of (ldn 2 h85 v_83) h85) fun v_86 => ifb true <|
c true v_86 h85) h85 fun w88 v_86 h88 =>
gdr (wantB v_75 true) (fun c => obv (.of (ldn 2 h88 (t 3)) h88) fun v_89 => ifb true <|
c true v_89 h88) h88 fun w91 v_89 h91 =>
gdr (wantB v_75 true) (fun c => arbE (.call F_trace_ahead [v_86, v_89] h91) call fun v_92 h93 => lt h93 fun g93 => ifb (true && true) <|
c true v_92 g93) h91 fun w94 v_92 h94 =>
obv (pkR v_75 v_92 (.bool false) h94) fun v_95 =>
cb v_95 (
k66 .normal (upd (upd (upd (upd (upd (upd (upd (upd (upd (upd (upd (upd t 7 v_67) 8 v_69) 9 v_71) 10 v_73) 11 v_75) 12 v_77) 13 v_80) 14 v_83) 15 v_86) 16 v_89) 17 v_92) 18 v_95) h94) (
k66 (.exit 0) (upd (upd (upd (upd (upd (upd (upd (upd (upd (upd (upd (upd t 7 v_67) 8 v_69) 9 v_71) 10 v_73) 11 v_75) 12 v_77) 13 v_80) 14 v_83) 15 v_86) 16 v_89) 17 v_92) 18 v_95) h94)

def S_trace_lay (P : Program) (call : FuncId → List AVal → Heap → Res AVal) (fuel : Nat) (l_a0 x_a1 : AVal) (h : Heap) : Res AVal :=
lt (retK P [.tmp 4]) fun k =>
arb (boxR x_a1 h) call fun x_0 h1 =>
arb (.val .nils h1) call fun v_2 h3 =>
arb (.val (.int .i64 0) h3) call fun at_4 h5 =>
lt (sqK (J_trace_lay_0 P call fuel k) k) fun k57 =>
lt (blkK 0 k57) fun k58 =>
(loopN (L_trace_lay_2 P call fuel) fuel (upd (upd (upd (enterT [l_a0, x_a1]) 3 x_0) 4 v_2) 5 at_4) h5).bind (lpK k58)
theorem E_trace_lay (call : FuncId → List AVal → Heap → Res AVal) (fuel : Nat) (l_a0 x_a1 : AVal) (h : Heap) : bodyR Try.prog call fuel Try.f29 [l_a0, x_a1] h = S_trace_lay Try.prog call fuel l_a0 x_a1 h := by kernel_rfl
theorem R_trace_lay {X : XTab} (l_a0 x_a1 : AVal) {h : Heap} {Q : AVal → Heap → Prop} (hx : X F_trace_lay [l_a0, x_a1] = none) (q : Tells (fun m => S_trace_lay Try.prog (acallX Try.prog X m) m l_a0 x_a1 h) Q) :
    Tells (fun m => acallX Try.prog X m F_trace_lay [l_a0, x_a1] h) Q :=
  Tells.later (q.le fun m => (E_trace_lay (acallX Try.prog X m) m l_a0 x_a1 h) ▸ acallX_le Try.func29 hx m h)

/-! ### precentor/trace.rows -/
def J_trace_rows_0 (P : Program) (call : FuncId → List AVal → Heap → Res AVal) (fuel : Nat) (k : Kn (AVal)) (t : T) (h : Heap) : Res (AVal) :=
arb (.val (t 3) h) call fun v_12 h13 =>
arb (.val v_12 h13) call fun v_14 h15 =>
k .ret (upd (upd t 62 v_12) 2 v_14) h15

def J_trace_rows_3 (P : Program) (call : FuncId → List AVal → Heap → Res AVal) (fuel : Nat) (k : Kn (Ex × T)) (t : T) (h : Heap) : Res (Ex × T) :=
arb (.of (aBin P .add 3 (.tmp 14) (.const (.int .i64 1)) (t 14) (.int .i64 1)) h) call fun v_26 h27 =>
arb (.val v_26 h27) call fun v_28 h29 =>
k .normal (upd (upd t 61 v_26) 14 v_28) h29

def J_trace_rows_5 (P : Program) (call : FuncId → List AVal → Heap → Res AVal) (fuel : Nat) (k : Kn (Ex × T)) (t : T) (h : Heap) : Res (Ex × T) :=
obv (.val (t 3) h) fun v_72 =>
obv (.val (t 8) h) fun v_74 =>
obv (.val (t 3) h) fun v_76 =>
obv (.val (t 8) h) fun v_78 =>
obv (.of (ixsR 1 v_76 v_78) h) fun v_80 =>
obv (.of (ld1 h v_80) h) fun v_82 => ifb true <|
obv (.of (ldn 4 h (t 7)) h) fun v_84 => ifb true <|
arbE (.call F_trace_id [v_84] h) call fun v_86 h87 => lt h87 fun g87 => ifb (true && (isV v_82 (arVal (.of (ld1 g87 v_80) g87)) && true)) <|
arbV (bslR 2 [(.int .i64 0), (.int .i64 0)] 1 g87 [(0, 2, v_86)]) fun v_88 h89 =>
arbE (appR 2 16 h89 v_82 v_88) call fun v_90 h91 => lt h91 fun g91 => ifb (true && true) <|
obv (.of (ixsR 1 v_72 v_74) g91) fun v_92 =>
arbE (stR 1 g91 v_92 v_90) call fun v_94 h95 => lt h95 fun g95 => ifb (true && true) <|
k .normal (upd (upd (upd (upd (upd (upd (upd (upd (upd (upd (upd t 50 v_72) 51 v_74) 52 v_76) 53 v_78) 54 v_80) 55 v_82) 56 v_84) 57 v_86) 58 v_88) 59 v_90) 60 v_92) g95

def J_trace_rows_4 (P : Program) (call : FuncId → List AVal → Heap → Res AVal) (fuel : Nat) (k : Kn (Ex × T)) (t : T) (h : Heap) : Res (Ex × T) :=
obv (.val (t 5) h) fun v_40 =>
obv (.of (ldn 4 h (t 7)) h) fun v_42 => ifb true <|
obv (.of (aLookup P h 54 v_40 v_42 false) h) fun v_44 => ifb true <|
obv (.of (aBin P .add 3 (.tmp 28) (.const (.int .i64 1)) v_44 (.int .i64 1)) h) fun v_46 =>
arbE (aMapEntry P h 54 v_40 v_42) call fun v_48 h49 => lt h49 fun g49 => ifb (true && (isV v_44 (arVal (.of (aLookup P g49 54 v_40 v_42 false) g49)) && true)) <|
obv (extR v_48 1 g49) fun v_50 =>
arbE (aEntryStore g49 v_40 v_50 v_46) call fun v_52 h53 => lt h53 fun g53 => ifb (true && true) <|
arb (.val (t 4) g53) call fun v_54 h55 =>
arb (.of (fadR 1 (t 7)) h55) call fun v_56 h57 =>
arb (.of (ld1 h57 v_56) h57) call fun v_58 h59 =>
arb (.of (aLookup P h59 46 v_54 v_58 true) h59) call fun v_60 h61 =>
arb (.val v_60 h61) call fun v_62 h63 =>
arb (extR v_62 0 h63) call fun v_64 h65 =>
arb (extR v_62 1 h65) call fun v_66 h67 =>
arb (.val v_64 h67) call fun k_68 h69 =>
arb (.val v_66 h69) call fun there_70 h71 =>
lt (sqK (J_trace_rows_5 P call fuel k) k) fun k96 =>
arb (.val there_70 h71) call fun v_97 h98 =>
arb (.of (aUn P .not v_97) h98) call fun v_99 h100 =>
cb v_99 (
arb (.val (t 3) h100) call fun v_101 h102 =>
arb (.of (lenL v_101) h102) call fun v_103 h104 =>
arb (.val v_103 h104) call fun k_105 h106 =>
arb (.val (t 4) h106) call fun v_107 h108 =>
arb (.of (fadR 1 (t 7)) h108) call fun v_109 h110 =>
arb (.of (ld1 h110 v_109) h110) call fun v_111 h112 =>
arb (.val k_105 h112) call fun v_113 h114 =>
arb (aMapUpdate P h114 46 v_107 v_111 v_113) call fun v_115 h116 =>
arb (.val (t 3) h116) call fun v_117 h118 =>
arb (bslR 1 [.nils] 1 h118 [(0, 1, .nils)]) call fun v_119 h120 =>
arb (appR 1 24 h120 v_117 v_119) call fun v_121 h122 =>
arb (.val v_121 h122) call fun out_123 h124 =>
k96 .normal (upd (upd (upd (upd (upd (upd (upd (upd (upd (upd (upd (upd (upd (upd (upd (upd (upd (upd (upd (upd (upd (upd (upd (upd (upd (upd (upd (upd t 26 v_40) 27 v_42) 28 v_44) 29 v_46) 30 v_48) 31 v_50) 33 v_54) 34 v_56) 35 v_58) 36 v_60) 32 v_62) 37 v_64) 38 v_66) 8 k_68) 9 there_70) 39 v_97) 40 v_99) 41 v_101) 42 v_103) 8 k_105) 43 v_107) 44 v_109) 45 v_111) 46 v_113) 47 v_117) 48 v_119) 49 v_121) 3 out_123) h124) (
k96 .normal (upd (upd (upd (upd (upd (upd (upd (upd (upd (upd (upd (upd (upd (upd (upd (upd (upd t 26 v_40) 27 v_42) 28 v_44) 29 v_46) 30 v_48) 31 v_50) 33 v_54) 34 v_56) 35 v_58) 36 v_60) 32 v_62) 37 v_64) 38 v_66) 8 k_68) 9 there_70) 39 v_97) 40 v_99) h100)

def J_trace_rows_2 (P : Program) (call : FuncId → List AVal → Heap → Res AVal) (fuel : Nat) (k : Kn (Ex × T)) (t : T) (h : Heap) : Res (Ex × T) :=
lt (sqK (J_trace_rows_3 P call fuel k) k) fun k30 =>
lt (blkK 1 k30) fun k31 =>
arb (.of (ixsR 4 (t 12) (t 14)) h) call fun v_32 h33 =>
arb (.of (ldn 4 h33 v_32) h33) call fun v_34 h35 =>
arb (newR [(.bool false), (.int .i64 0), (.int .i64 0), (.int .i64 0)] h35) call fun m_36 h37 =>
arb (stR 4 h37 m_36 v_34) call fun v_38 h39 =>
lt (sqK (J_trace_rows_4 P call fuel k31) k31) fun k125 =>
arb (.of (fadR 0 m_36) h39) call fun v_126 h127 =>
arb (.of (ld1 h127 v_126) h127) call fun v_128 h129 =>
arb (.val v_128 h129) call fun v_130 h131 =>
gd (wantB v_130 false) (fun c => arb (.val (t 5) h131) call c) h131 fun v_132 h133 =>
gd (wantB v_130 false) (fun c => arb (.of (ldn 4 h133 m_36) h133) call c) h133 fun v_134 h135 =>
gd (wantB v_130 false) (fun c => arb (.of (aLookup P h135 54 v_132 v_134 false) h135) call c) h135 fun v_136 h137 =>
gd (wantB v_130 false) (fun c => arb (.of (aBin P .gtr 3 (.tmp 23) (.const (.int .i64 0)) v_136 (.int .i64 0)) h137) call c) h137 fun v_138 h139 =>
arb (pkR v_130 (.bool true) v_138 h139) call fun v_140 h141 =>
cb v_140 (
k125 (.exit 1) (upd (upd (upd (upd (upd (upd (upd (upd (upd (upd (upd t 16 v_32) 17 v_34) 7 m_36) 18 v_126) 19 v_128) 20 v_130) 21 v_132) 22 v_134) 23 v_136) 24 v_138) 25 v_140) h141) (
k125 .normal (upd (upd (upd (upd (upd (upd (upd (upd (upd (upd (upd t 16 v_32) 17 v_34) 7 m_36) 18 v_126) 19 v_128) 20 v_130) 21 v_132) 22 v_134) 23 v_136) 24 v_138) 25 v_140) h141)

def L_trace_rows_1 (P : Program) (call : FuncId → List AVal → Heap → Res AVal) (fuel : Nat) (t : T) (h : Heap) : Res (Ex × T) :=
lt okK fun k =>
arb (.of (aBin P .lss 3 (.tmp 14) (.tmp 13) (t 14) (t 13)) h) call fun v_24 h25 =>
lt (sqK (J_trace_rows_2 P call fuel k) k) fun k142 =>
cb v_24 (
k142 .normal (upd t 15 v_24) h25) (
k142 (.exit 0) (upd t 15 v_24) h25)

def S_trace_rows (P : Program) (call : FuncId → List AVal → Heap → Res AVal) (fuel : Nat) (l_a0 : AVal) (h : Heap) : Res AVal :=
lt (retK P [.tmp 2]) fun k =>
arb (.val .nils h) call fun v_0 h1 =>
arb (.val .nils h1) call fun out_2 h3 =>
arb (.val (.mp h3.next) (Heap.new h3 true [])) call fun v_4 h5 =>
arb (.val (.mp h5.next) (Heap.new h5 true [])) call fun v_6 h7 =>
arb (.val v_4 h7) call fun place_8 h9 =>
arb (.val v_6 h9) call fun seen_10 h11 =>
lt (sqK (J_trace_rows_0 P call fuel k) k) fun k16 =>
arb (.val l_a0 h11) call fun v_17 h18 =>
arb (.of (lenL v_17) h18) call fun v_19 h20 =>
arb (.val (.int .i64 0) h20) call fun v_21 h22 =>
lt (blkK 0 k16) fun k23 =>
(loopN (L_trace_rows_1 P call fuel) fuel (upd (upd (upd (upd (upd (upd (upd (upd (upd (enterT [l_a0]) 2 v_0) 3 out_2) 10 v_4) 11 v_6) 4 place_8) 5 seen_10) 12 v_17) 13 v_19) 14 v_21) h22).bind (lpK k23)
theorem E_trace_rows (call : FuncId → List AVal → Heap → Res AVal) (fuel : Nat) (l_a0 : AVal) (h : Heap) : bodyR Try.prog call fuel Try.f30 [l_a0] h = S_trace_rows Try.prog call fuel l_a0 h := by kernel_rfl
theorem R_trace_rows {X : XTab} (l_a0 : AVal) {h : Heap} {Q : AVal → Heap → Prop} (hx : X F_trace_rows [l_a0] = none) (q : Tells (fun m => S_trace_rows Try.prog (acallX Try.prog X m) m l_a0 h) Q) :
    Tells (fun m => acallX Try.prog X m F_trace_rows [l_a0] h) Q :=
  Tells.later (q.le fun m => (E_trace_rows (acallX Try.prog X m) m l_a0 h) ▸ acallX_le Try.func30 hx m h)

/-! ### precentor/trace.ahead -/

def S_trace_ahead (P : Program) (call : FuncId → List AVal → Heap → Res AVal) (fuel : Nat) (a_a0 b_a1 : AVal) (h : Heap) : Res AVal :=
lt (retK P [.tmp 4]) fun k =>
arb (boxR a_a0 h) call fun a_0 h1 =>
arb (boxR b_a1 h1) call fun b_2 h3 =>
arb (.val (.bool false) h3) call fun v_4 h5 =>
arb (.of (fadR 0 a_0) h5) call fun v_6 h7 =>
arb (.of (ld1 h7 v_6) h7) call fun v_8 h9 =>
arb (.of (fadR 0 b_2) h9) call fun v_10 h11 =>
arb (.of (ld1 h11 v_10) h11) call fun v_12 h13 =>
arb (.of (aBin P .lss 3 (.tmp 6) (.tmp 8) v_8 v_12) h13) call fun v_14 h15 =>
arb (.val v_14 h15) call fun v_16 h17 =>
gd (wantB v_16 false) (fun c => arb (.of (fadR 0 a_0) h17) call c) h17 fun v_18 h19 =>
gd (wantB v_16 false) (fun c => arb (.of (ld1 h19 v_18) h19) call c) h19 fun v_20 h21 =>
gd (wantB v_16 false) (fun c => arb (.of (fadR 0 b_2) h21) call c) h21 fun v_22 h23 =>
gd (wantB v_16 false) (fun c => arb (.of (ld1 h23 v_22) h23) call c) h23 fun v_24 h25 =>
gd (wantB v_16 false) (fun c => arb (.of (aBin P .eql 3 (.tmp 12) (.tmp 14) v_20 v_24) h25) call c) h25 fun v_26 h27 =>
gd (wantB v_16 false) (fun c => arb (.val v_26 h27) call c) h27 fun v_28 h29 =>
gd (wantB v_28 true) (fun c => arb (.of (fadR 1 a_0) h29) call c) h29 fun v_30 h31 =>
gd (wantB v_28 true) (fun c => arb (.of (ld1 h31 v_30) h31) call c) h31 fun v_32 h33 =>
gd (wantB v_28 true) (fun c => arb (.of (fadR 1 b_2) h33) call c) h33 fun v_34 h35 =>
gd (wantB v_28 true) (fun c => arb (.of (ld1 h35 v_34) h35) call c) h35 fun v_36 h37 =>
gd (wantB v_28 true) (fun c => arb (.of (aBin P .lss 3 (.tmp 18) (.tmp 20) v_32 v_36) h37) call c) h37 fun v_38 h39 =>
gd (wantB v_16 false) (fun c => arb (pkR v_28 v_38 (.bool false) h39) call c) h39 fun v_40 h41 =>
arb (pkR v_16 (.bool true) v_40 h41) call fun v_42 h43 =>
arb (.val v_42 h43) call fun v_44 h45 =>
k .ret (upd (upd (upd (upd (upd (upd (upd (upd (upd (upd (upd (upd (upd (upd (upd (upd (upd (upd (upd (upd (upd (upd (upd (enterT [a_a0, b_a1]) 2 a_0) 3 b_2) 4 v_4) 5 v_6) 6 v_8) 7 v_10) 8 v_12) 9 v_14) 10 v_16) 11 v_18) 12 v_20) 13 v_22) 14 v_24) 15 v_26) 16 v_28) 17 v_30) 18 v_32) 19 v_34) 20 v_36) 21 v_38) 22 v_40) 23 v_42) 4 v_44) h45
theorem E_trace_ahead (call : FuncId → List AVal → Heap → Res AVal) (fuel : Nat) (a_a0 b_a1 : AVal) (h : Heap) : bodyR Try.prog call fuel Try.f31 [a_a0, b_a1] h = S_trace_ahead Try.prog call fuel a_a0 b_a1 h := by kernel_rfl
theorem R_trace_ahead {X : XTab} (a_a0 b_a1 : AVal) {h : Heap} {Q : AVal → Heap → Prop} (hx : X F_trace_ahead [a_a0, b_a1] = none) (q : Tells (fun m => S_trace_ahead Try.prog (acallX Try.prog X m) m a_a0 b_a1 h) Q) :
    Tells (fun m => acallX Try.prog X m F_trace_ahead [a_a0, b_a1] h) Q :=
  Tells.later (q.le fun m => (E_trace_ahead (acallX Try.prog X m) m a_a0 b_a1 h) ▸ acallX_le Try.func31 hx m h)


end Go.Proofs.Ytochkdifpgelmaa
