/-
  Functions of attr in the form of YtfbipojncmkckaaABS (printed by a program of ours, gen.lean).
-/
import Derived.Test.YtfbipojncmkckaaSIds
set_option linter.unusedVariables false
namespace Go.Proofs.Ytfbipojncmkckaa
open Go.Ab
/-! ### precentor/attr.Get -/
def J_attr_Get_0 (P : Program) (call : FuncId → List AVal → Heap → Res AVal) (fuel : Nat) (k : Kn (AVal)) (t : T) (h : Heap) : Res (AVal) :=
arb (.of (bldR [(.int .i64 0), (.int .i64 0), (.flt .f64 0), (.str (bs [])), (.bool false)] []) h) call fun v_4 h5 =>
arb (stR 5 h5 (t 4) v_4) call fun v_6 h7 =>
arb (.val (.bool false) h7) call fun v_8 h9 =>
k .ret (upd (upd t 21 v_4) 5 v_8) h9

def J_attr_Get_3 (P : Program) (call : FuncId → List AVal → Heap → Res AVal) (fuel : Nat) (k : Kn (Ex × T)) (t : T) (h : Heap) : Res (Ex × T) :=
arb (.of (aBin P .add 3 (.tmp 10) (.const (.int .i64 1)) (t 10) (.int .i64 1)) h) call fun v_20 h21 =>
arb (.val v_20 h21) call fun v_22 h23 =>
k .normal (upd (upd t 20 v_20) 10 v_22) h23

def J_attr_Get_2 (P : Program) (call : FuncId → List AVal → Heap → Res AVal) (fuel : Nat) (k : Kn (Ex × T)) (t : T) (h : Heap) : Res (Ex × T) :=
lt (sqK (J_attr_Get_3 P call fuel k) k) fun k24 =>
lt (blkK 1 k24) fun k25 =>
arb (.of (ixsR 6 (t 8) (t 10)) h) call fun v_26 h27 =>
arb (.of (ldn 6 h27 v_26) h27) call fun v_28 h29 =>
arb (newR [(.str (bs [])), (.int .i64 0), (.int .i64 0), (.flt .f64 0), (.str (bs [])), (.bool false)] h29) call fun a_30 h31 =>
arb (stR 6 h31 a_30 v_28) call fun v_32 h33 =>
arb (.of (fadR 0 a_30) h33) call fun v_34 h35 =>
arb (.of (ld1 h35 v_34) h35) call fun v_36 h37 =>
arb (.val (t 1) h37) call fun v_38 h39 =>
arb (.of (aBin P .eql 9 (.tmp 15) (.tmp 16) v_36 v_38) h39) call fun v_40 h41 =>
cb v_40 (
arb (.of (fadR 1 a_30) h41) call fun v_42 h43 =>
arb (.of (ldn 5 h43 v_42) h43) call fun v_44 h45 =>
arb (stR 5 h45 (t 4) v_44) call fun v_46 h47 =>
arb (.val (.bool true) h47) call fun v_48 h49 =>
k25 .ret (upd (upd (upd (upd (upd (upd (upd (upd (upd (upd t 12 v_26) 13 v_28) 7 a_30) 14 v_34) 15 v_36) 16 v_38) 17 v_40) 18 v_42) 19 v_44) 5 v_48) h49) (
k25 .normal (upd (upd (upd (upd (upd (upd (upd t 12 v_26) 13 v_28) 7 a_30) 14 v_34) 15 v_36) 16 v_38) 17 v_40) h41)

def L_attr_Get_1 (P : Program) (call : FuncId → List AVal → Heap → Res AVal) (fuel : Nat) (t : T) (h : Heap) : Res (Ex × T) :=
lt okK fun k =>
arb (.of (aBin P .lss 3 (.tmp 10) (.tmp 9) (t 10) (t 9)) h) call fun v_18 h19 =>
lt (sqK (J_attr_Get_2 P call fuel k) k) fun k50 =>
cb v_18 (
k50 .normal (upd t 11 v_18) h19) (
k50 (.exit 0) (upd t 11 v_18) h19)

theorem C_attr_Get_0 (h : Heap) (a : AVal) : aLoad Try.prog h 24 a = ldn 5 h a := by kernel_rfl
def S_attr_Get (P : Program) (call : FuncId → List AVal → Heap → Res AVal) (fuel : Nat) (l_a0 name_a1 : AVal) (h : Heap) : Res AVal :=
lt (retK P [.cell 4 24, .tmp 5]) fun k =>
arb (newR [(.int .i64 0), (.int .i64 0), (.flt .f64 0), (.str (bs [])), (.bool false)] h) call fun v_0 h1 =>
arb (.val (.bool false) h1) call fun v_2 h3 =>
lt (sqK (J_attr_Get_0 P call fuel k) k) fun k10 =>
arb (.val l_a0 h3) call fun v_11 h12 =>
arb (.of (lenL v_11) h12) call fun v_13 h14 =>
arb (.val (.int .i64 0) h14) call fun v_15 h16 =>
lt (blkK 0 k10) fun k17 =>
(loopN (L_attr_Get_1 P call fuel) fuel (upd (upd (upd (upd (upd (enterT [l_a0, name_a1]) 4 v_0) 5 v_2) 8 v_11) 9 v_13) 10 v_15) h16).bind (lpK k17)
theorem E_attr_Get (call : FuncId → List AVal → Heap → Res AVal) (fuel : Nat) (l_a0 name_a1 : AVal) (h : Heap) : bodyR Try.prog call fuel Try.f8 [l_a0, name_a1] h = S_attr_Get Try.prog call fuel l_a0 name_a1 h := by kernel_rfl
theorem R_attr_Get {X : XTab} (l_a0 name_a1 : AVal) {h : Heap} {Q : AVal → Heap → Prop} (hx : X F_attr_Get [l_a0, name_a1] = none) (q : Tells (fun m => S_attr_Get Try.prog (acallX Try.prog X m) m l_a0 name_a1 h) Q) :
    Tells (fun m => acallX Try.prog X m F_attr_Get [l_a0, name_a1] h) Q :=
  Tells.later (q.le fun m => (E_attr_Get (acallX Try.prog X m) m l_a0 name_a1 h) ▸ acallX_le Try.func8 hx m h)

/-! ### precentor/attr.Right -/
def J_attr_Right_1 (P : Program) (call : FuncId → List AVal → Heap → Res AVal) (fuel : Nat) (k : Kn (AVal)) (t : T) (h : Heap) : Res (AVal) :=
arb (.val (.bool true) h) call fun v_2 h3 =>
k .ret (upd t 2 v_2) h3

def J_attr_Right_4 (P : Program) (call : FuncId → List AVal → Heap → Res AVal) (fuel : Nat) (k : Kn (Ex × T)) (t : T) (h : Heap) : Res (Ex × T) :=
arb (.of (aBin P .add 3 (.tmp 10) (.const (.int .i64 1)) (t 10) (.int .i64 1)) h) call fun v_14 h15 =>
arb (.val v_14 h15) call fun v_16 h17 =>
k .normal (upd (upd t 40 v_14) 10 v_16) h17

def J_attr_Right_3 (P : Program) (call : FuncId → List AVal → Heap → Res AVal) (fuel : Nat) (k : Kn (Ex × T)) (t : T) (h : Heap) : Res (Ex × T) :=
lt (sqK (J_attr_Right_4 P call fuel k) k) fun k18 =>
lt (blkK 1 k18) fun k19 =>
arb (.val (t 10) h) call fun v_20 h21 =>
arb (.of (ixsR 6 (t 8) (t 10)) h21) call fun v_22 h23 =>
arb (.of (ldn 6 h23 v_22) h23) call fun v_24 h25 =>
arb (newR [(.str (bs [])), (.int .i64 0), (.int .i64 0), (.flt .f64 0), (.str (bs [])), (.bool false)] h25) call fun a_26 h27 =>
arb (.val v_20 h27) call fun i_28 h29 =>
arb (stR 6 h29 a_26 v_24) call fun v_30 h31 =>
obv (.of (fadR 0 a_26) h31) fun v_32 =>
obv (.of (ld1 h31 v_32) h31) fun v_34 => ifb true <|
arbE (.call F_attr_Word [v_34] h31) call fun v_36 h37 => lt h37 fun g37 => ifb (true && true) <|
obv (.of (aUn P .not v_36) g37) fun v_38 =>
obv (.val v_38 g37) fun v_40 =>
gdr (wantB v_40 false) (fun c => obv (.of (fadR 1 a_26) g37) fun v_42 =>
c true v_42 g37) g37 fun w44 v_42 h44 =>
gdr (wantB v_40 false) (fun c => obv (.of (ldn 5 h44 v_42) h44) fun v_45 => ifb true <|
c true v_45 h44) h44 fun w47 v_45 h47 =>
gdr (wantB v_40 false) (fun c => arbE (.call F_value_Right [v_45] h47) call fun v_48 h49 => lt h49 fun g49 => ifb (true && true) <|
c true v_48 g49) h47 fun w50 v_48 h50 =>
gdr (wantB v_40 false) (fun c => obv (.of (aUn P .not v_48) h50) fun v_51 =>
c true v_51 h50) h50 fun w53 v_51 h53 =>
obv (pkR v_40 (.bool true) v_51 h53) fun v_54 =>
obv (.val v_54 h53) fun v_56 =>
gdr (wantB v_56 false) (fun c => obv (.val i_28 h53) fun v_58 =>
c true v_58 h53) h53 fun w60 v_58 h60 =>
gdr (wantB v_56 false) (fun c => obv (.of (aBin P .gtr 3 (.tmp 26) (.const (.int .i64 0)) v_58 (.int .i64 0)) h60) fun v_61 =>
c true v_61 h60) h60 fun w63 v_61 h63 =>
gdr (wantB v_56 false) (fun c => obv (.val v_61 h63) fun v_64 =>
c true v_64 h63) h63 fun w66 v_64 h66 =>
gdr (wantB v_64 true) (fun c => obv (.val (t 0) h66) fun v_67 =>
c true v_67 h66) h66 fun w69 v_67 h69 =>
gdr (wantB v_64 true) (fun c => obv (.val i_28 h69) fun v_70 =>
c true v_70 h69) h69 fun w72 v_70 h72 =>
gdr (wantB v_64 true) (fun c => obv (.of (aBin P .sub 3 (.tmp 30) (.const (.int .i64 1)) v_70 (.int .i64 1)) h72) fun v_73 =>
c true v_73 h72) h72 fun w75 v_73 h75 =>
gdr (wantB v_64 true) (fun c => obv (.of (ixsR 6 v_67 v_73) h75) fun v_76 =>
c true v_76 h75) h75 fun w78 v_76 h78 =>
gdr (wantB v_64 true) (fun c => obv (.of (fadR 0 v_76) h78) fun v_79 =>
c true v_79 h78) h78 fun w81 v_79 h81 =>
gdr (wantB v_64 true) (fun c => obv (.of (ld1 h81 v_79) h81) fun v_82 => ifb true <|
c true v_82 h81) h81 fun w84 v_82 h84 =>
gdr (wantB v_64 true) (fun c => obv (.of (fadR 0 a_26) h84) fun v_85 =>
c true v_85 h84) h84 fun w87 v_85 h87 =>
gdr (wantB v_64 true) (fun c => obv (.of (ld1 h87 v_85) h87) fun v_88 => ifb true <|
c true v_88 h87) h87 fun w90 v_88 h90 =>
gdr (wantB v_64 true) (fun c => obv (.of (aBin P .geq 9 (.tmp 34) (.tmp 36) v_82 v_88) h90) fun v_91 =>
c true v_91 h90) h90 fun w93 v_91 h93 =>
gdr (wantB v_56 false) (fun c => obv (pkR v_64 v_91 (.bool false) h93) fun v_94 =>
c true v_94 h93) h93 fun w96 v_94 h96 =>
obv (pkR v_56 (.bool true) v_94 h96) fun v_97 =>
cb v_97 (
arb (.val (.bool false) h96) call fun v_99 h100 =>
k19 .ret (upd (upd (upd (upd (upd (upd (upd (upd (upd (upd (upd (upd (upd (upd (upd (upd (upd (upd (upd (upd (upd (upd (upd (upd (upd (upd (upd (upd (upd (upd (upd t 12 v_20) 13 v_22) 14 v_24) 4 a_26) 3 i_28) 15 v_32) 16 v_34) 17 v_36) 18 v_38) 19 v_40) 20 v_42) 21 v_45) 22 v_48) 23 v_51) 24 v_54) 25 v_56) 26 v_58) 27 v_61) 28 v_64) 29 v_67) 30 v_70) 31 v_73) 32 v_76) 33 v_79) 34 v_82) 35 v_85) 36 v_88) 37 v_91) 38 v_94) 39 v_97) 2 v_99) h100) (
k19 .normal (upd (upd (upd (upd (upd (upd (upd (upd (upd (upd (upd (upd (upd (upd (upd (upd (upd (upd (upd (upd (upd (upd (upd (upd (upd (upd (upd (upd (upd (upd t 12 v_20) 13 v_22) 14 v_24) 4 a_26) 3 i_28) 15 v_32) 16 v_34) 17 v_36) 18 v_38) 19 v_40) 20 v_42) 21 v_45) 22 v_48) 23 v_51) 24 v_54) 25 v_56) 26 v_58) 27 v_61) 28 v_64) 29 v_67) 30 v_70) 31 v_73) 32 v_76) 33 v_79) 34 v_82) 35 v_85) 36 v_88) 37 v_91) 38 v_94) 39 v_97) h96)

def L_attr_Right_2 (P : Program) (call : FuncId → List AVal → Heap → Res AVal) (fuel : Nat) (t : T) (h : Heap) : Res (Ex × T) :=
lt okK fun k =>
arb (.of (aBin P .lss 3 (.tmp 10) (.tmp 9) (t 10) (t 9)) h) call fun v_12 h13 =>
lt (sqK (J_attr_Right_3 P call fuel k) k) fun k101 =>
cb v_12 (
k101 .normal (upd t 11 v_12) h13) (
k101 (.exit 0) (upd t 11 v_12) h13)

def J_attr_Right_0 (P : Program) (call : FuncId → List AVal → Heap → Res AVal) (fuel : Nat) (k : Kn (AVal)) (t : T) (h : Heap) : Res (AVal) :=
lt (sqK (J_attr_Right_1 P call fuel k) k) fun k4 =>
arb (.val (t 0) h) call fun v_5 h6 =>
arb (.of (lenL v_5) h6) call fun v_7 h8 =>
arb (.val (.int .i64 0) h8) call fun v_9 h10 =>
lt (blkK 0 k4) fun k11 =>
(loopN (L_attr_Right_2 P call fuel) fuel (upd (upd (upd t 8 v_5) 9 v_7) 10 v_9) h10).bind (lpK k11)

def S_attr_Right (P : Program) (call : FuncId → List AVal → Heap → Res AVal) (fuel : Nat) (l_a0 : AVal) (h : Heap) : Res AVal :=
lt (retK P [.tmp 2]) fun k =>
arb (.val (.bool false) h) call fun v_0 h1 =>
lt (sqK (J_attr_Right_0 P call fuel k) k) fun k102 =>
arb (.val l_a0 h1) call fun v_103 h104 =>
arb (.of (lenL v_103) h104) call fun v_105 h106 =>
arb (.of (aBin P .gtr 3 (.tmp 6) (.const (.int .i64 5)) v_105 (.int .i64 5)) h106) call fun v_107 h108 =>
cb v_107 (
arb (.val (.bool false) h108) call fun v_109 h110 =>
k102 .ret (upd (upd (upd (upd (upd (enterT [l_a0]) 2 v_0) 5 v_103) 6 v_105) 7 v_107) 2 v_109) h110) (
k102 .normal (upd (upd (upd (upd (enterT [l_a0]) 2 v_0) 5 v_103) 6 v_105) 7 v_107) h108)
theorem E_attr_Right (call : FuncId → List AVal → Heap → Res AVal) (fuel : Nat) (l_a0 : AVal) (h : Heap) : bodyR Try.prog call fuel Try.f10 [l_a0] h = S_attr_Right Try.prog call fuel l_a0 h := by kernel_rfl
theorem R_attr_Right {X : XTab} (l_a0 : AVal) {h : Heap} {Q : AVal → Heap → Prop} (hx : X F_attr_Right [l_a0] = none) (q : Tells (fun m => S_attr_Right Try.prog (acallX Try.prog X m) m l_a0 h) Q) :
    Tells (fun m => acallX Try.prog X m F_attr_Right [l_a0] h) Q :=
  Tells.later (q.le fun m => (E_attr_Right (acallX Try.prog X m) m l_a0 h) ▸ acallX_le Try.func10 hx m h)

/-! ### precentor/attr.Word -/
def J_attr_Word_0 (P : Program) (call : FuncId → List AVal → Heap → Res AVal) (fuel : Nat) (k : Kn (AVal)) (t : T) (h : Heap) : Res (AVal) :=
arb (.val (t 0) h) call fun v_2 h3 =>
arb (.of (lenS v_2) h3) call fun v_4 h5 =>
arb (.of (aBin P .geq 3 (.tmp 21) (.const (.int .i64 1)) v_4 (.int .i64 1)) h5) call fun v_6 h7 =>
arb (.val v_6 h7) call fun v_8 h9 =>
gd (wantB v_8 true) (fun c => arb (.val (t 0) h9) call c) h9 fun v_10 h11 =>
gd (wantB v_8 true) (fun c => arb (.of (lenS v_10) h11) call c) h11 fun v_12 h13 =>
gd (wantB v_8 true) (fun c => arb (.of (aBin P .leq 3 (.tmp 25) (.const (.int .i64 6)) v_12 (.int .i64 6)) h13) call c) h13 fun v_14 h15 =>
arb (pkR v_8 v_14 (.bool false) h15) call fun v_16 h17 =>
arb (.val v_16 h17) call fun v_18 h19 =>
k .ret (upd (upd (upd (upd (upd (upd (upd (upd (upd t 20 v_2) 21 v_4) 22 v_6) 23 v_8) 24 v_10) 25 v_12) 26 v_14) 27 v_16) 2 v_18) h19

def J_attr_Word_3 (P : Program) (call : FuncId → List AVal → Heap → Res AVal) (fuel : Nat) (k : Kn (Ex × T)) (t : T) (h : Heap) : Res (Ex × T) :=
arb (.val (t 3) h) call fun v_24 h25 =>
arb (.of (aBin P .add 3 (.tmp 8) (.const (.int .i64 1)) v_24 (.int .i64 1)) h25) call fun v_26 h27 =>
arb (.val v_26 h27) call fun i_28 h29 =>
k .normal (upd (upd (upd t 8 v_24) 9 v_26) 3 i_28) h29

def J_attr_Word_2 (P : Program) (call : FuncId → List AVal → Heap → Res AVal) (fuel : Nat) (k : Kn (Ex × T)) (t : T) (h : Heap) : Res (Ex × T) :=
lt (sqK (J_attr_Word_3 P call fuel k) k) fun k30 =>
lt (blkK 1 k30) fun k31 =>
arb (.val (t 0) h) call fun v_32 h33 =>
arb (.val (t 3) h33) call fun v_34 h35 =>
arb (.of (ixtR v_32 v_34) h35) call fun v_36 h37 =>
arb (.of (aBin P .lss 5 (.tmp 12) (.const (.int .u8 97)) v_36 (.int .u8 97)) h37) call fun v_38 h39 =>
arb (.val v_38 h39) call fun v_40 h41 =>
gd (wantB v_40 false) (fun c => arb (.val (t 0) h41) call c) h41 fun v_42 h43 =>
gd (wantB v_40 false) (fun c => arb (.val (t 3) h43) call c) h43 fun v_44 h45 =>
gd (wantB v_40 false) (fun c => arb (.of (ixtR v_42 v_44) h45) call c) h45 fun v_46 h47 =>
gd (wantB v_40 false) (fun c => arb (.of (aBin P .gtr 5 (.tmp 17) (.const (.int .u8 122)) v_46 (.int .u8 122)) h47) call c) h47 fun v_48 h49 =>
arb (pkR v_40 (.bool true) v_48 h49) call fun v_50 h51 =>
cb v_50 (
arb (.val (.bool false) h51) call fun v_52 h53 =>
k31 .ret (upd (upd (upd (upd (upd (upd (upd (upd (upd (upd (upd t 10 v_32) 11 v_34) 12 v_36) 13 v_38) 14 v_40) 15 v_42) 16 v_44) 17 v_46) 18 v_48) 19 v_50) 2 v_52) h53) (
k31 .normal (upd (upd (upd (upd (upd (upd (upd (upd (upd (upd t 10 v_32) 11 v_34) 12 v_36) 13 v_38) 14 v_40) 15 v_42) 16 v_44) 17 v_46) 18 v_48) 19 v_50) h51)

def L_attr_Word_1 (P : Program) (call : FuncId → List AVal → Heap → Res AVal) (fuel : Nat) (t : T) (h : Heap) : Res (Ex × T) :=
lt okK fun k =>
lt (sqK (J_attr_Word_2 P call fuel k) k) fun k54 =>
arb (.val (t 3) h) call fun v_55 h56 =>
arb (.val (t 0) h56) call fun v_57 h58 =>
arb (.of (lenS v_57) h58) call fun v_59 h60 =>
arb (.of (aBin P .lss 3 (.tmp 4) (.tmp 6) v_55 v_59) h60) call fun v_61 h62 =>
cb v_61 (
k54 .normal (upd (upd (upd (upd t 4 v_55) 5 v_57) 6 v_59) 7 v_61) h62) (
k54 (.exit 0) (upd (upd (upd (upd t 4 v_55) 5 v_57) 6 v_59) 7 v_61) h62)

def S_attr_Word (P : Program) (call : FuncId → List AVal → Heap → Res AVal) (fuel : Nat) (s_a0 : AVal) (h : Heap) : Res AVal :=
lt (retK P [.tmp 2]) fun k =>
arb (.val (.bool false) h) call fun v_0 h1 =>
lt (sqK (J_attr_Word_0 P call fuel k) k) fun k20 =>
arb (.val (.int .i64 0) h1) call fun i_21 h22 =>
lt (blkK 0 k20) fun k23 =>
(loopN (L_attr_Word_1 P call fuel) fuel (upd (upd (enterT [s_a0]) 2 v_0) 3 i_21) h22).bind (lpK k23)
theorem E_attr_Word (call : FuncId → List AVal → Heap → Res AVal) (fuel : Nat) (s_a0 : AVal) (h : Heap) : bodyR Try.prog call fuel Try.f11 [s_a0] h = S_attr_Word Try.prog call fuel s_a0 h := by kernel_rfl
theorem R_attr_Word {X : XTab} (s_a0 : AVal) {h : Heap} {Q : AVal → Heap → Prop} (hx : X F_attr_Word [s_a0] = none) (q : Tells (fun m => S_attr_Word Try.prog (acallX Try.prog X m) m s_a0 h) Q) :
    Tells (fun m => acallX Try.prog X m F_attr_Word [s_a0] h) Q :=
  Tells.later (q.le fun m => (E_attr_Word (acallX Try.prog X m) m s_a0 h) ▸ acallX_le Try.func11 hx m h)

/-! ### precentor/attr.Same -/
def J_attr_Same_1 (P : Program) (call : FuncId → List AVal → Heap → Res AVal) (fuel : Nat) (k : Kn (AVal)) (t : T) (h : Heap) : Res (AVal) :=
arb (.val (.bool true) h) call fun v_2 h3 =>
k .ret (upd t 4 v_2) h3

def J_attr_Same_4 (P : Program) (call : FuncId → List AVal → Heap → Res AVal) (fuel : Nat) (k : Kn (Ex × T)) (t : T) (h : Heap) : Res (Ex × T) :=
arb (.of (aBin P .add 3 (.tmp 13) (.const (.int .i64 1)) (t 13) (.int .i64 1)) h) call fun v_14 h15 =>
arb (.val v_14 h15) call fun v_16 h17 =>
k .normal (upd (upd t 41 v_14) 13 v_16) h17

def J_attr_Same_3 (P : Program) (call : FuncId → List AVal → Heap → Res AVal) (fuel : Nat) (k : Kn (Ex × T)) (t : T) (h : Heap) : Res (Ex × T) :=
lt (sqK (J_attr_Same_4 P call fuel k) k) fun k18 =>
lt (blkK 1 k18) fun k19 =>
arb (.val (t 13) h) call fun v_20 h21 =>
arb (.val v_20 h21) call fun i_22 h23 =>
obv (.val (t 0) h23) fun v_24 =>
obv (.val i_22 h23) fun v_26 =>
obv (.of (ixsR 6 v_24 v_26) h23) fun v_28 =>
obv (.of (fadR 0 v_28) h23) fun v_30 =>
obv (.of (ld1 h23 v_30) h23) fun v_32 => ifb true <|
obv (.val (t 1) h23) fun v_34 =>
obv (.val i_22 h23) fun v_36 =>
obv (.of (ixsR 6 v_34 v_36) h23) fun v_38 =>
obv (.of (fadR 0 v_38) h23) fun v_40 =>
obv (.of (ld1 h23 v_40) h23) fun v_42 => ifb true <|
obv (.of (aBin P .neq 9 (.tmp 20) (.tmp 25) v_32 v_42) h23) fun v_44 =>
obv (.val v_44 h23) fun v_46 =>
gdr (wantB v_46 false) (fun c => obv (.val (t 0) h23) fun v_48 =>
c true v_48 h23) h23 fun w50 v_48 h50 =>
gdr (wantB v_46 false) (fun c => obv (.val i_22 h50) fun v_51 =>
c true v_51 h50) h50 fun w53 v_51 h53 =>
gdr (wantB v_46 false) (fun c => obv (.of (ixsR 6 v_48 v_51) h53) fun v_54 =>
c true v_54 h53) h53 fun w56 v_54 h56 =>
gdr (wantB v_46 false) (fun c => obv (.of (fadR 1 v_54) h56) fun v_57 =>
c true v_57 h56) h56 fun w59 v_57 h59 =>
gdr (wantB v_46 false) (fun c => obv (.of (ldn 5 h59 v_57) h59) fun v_60 => ifb true <|
c true v_60 h59) h59 fun w62 v_60 h62 =>
gdr (wantB v_46 false) (fun c => obv (.val (t 1) h62) fun v_63 =>
c true v_63 h62) h62 fun w65 v_63 h65 =>
gdr (wantB v_46 false) (fun c => obv (.val i_22 h65) fun v_66 =>
c true v_66 h65) h65 fun w68 v_66 h68 =>
gdr (wantB v_46 false) (fun c => obv (.of (ixsR 6 v_63 v_66) h68) fun v_69 =>
c true v_69 h68) h68 fun w71 v_69 h71 =>
gdr (wantB v_46 false) (fun c => obv (.of (fadR 1 v_69) h71) fun v_72 =>
c true v_72 h71) h71 fun w74 v_72 h74 =>
gdr (wantB v_46 false) (fun c => obv (.of (ldn 5 h74 v_72) h74) fun v_75 => ifb true <|
c true v_75 h74) h74 fun w77 v_75 h77 =>
gdr (wantB v_46 false) (fun c => arbE (.call F_value_Same [v_60, v_75] h77) call fun v_78 h79 => lt h79 fun g79 => ifb (true && true) <|
c true v_78 g79) h77 fun w80 v_78 h80 =>
gdr (wantB v_46 false) (fun c => obv (.of (aUn P .not v_78) h80) fun v_81 =>
c true v_81 h80) h80 fun w83 v_81 h83 =>
obv (pkR v_46 (.bool true) v_81 h83) fun v_84 =>
cb v_84 (
arb (.val (.bool false) h83) call fun v_86 h87 =>
k19 .ret (upd (upd (upd (upd (upd (upd (upd (upd (upd (upd (upd (upd (upd (upd (upd (upd (upd (upd (upd (upd (upd (upd (upd (upd (upd (upd (upd (upd t 15 v_20) 5 i_22) 16 v_24) 17 v_26) 18 v_28) 19 v_30) 20 v_32) 21 v_34) 22 v_36) 23 v_38) 24 v_40) 25 v_42) 26 v_44) 27 v_46) 28 v_48) 29 v_51) 30 v_54) 31 v_57) 32 v_60) 33 v_63) 34 v_66) 35 v_69) 36 v_72) 37 v_75) 38 v_78) 39 v_81) 40 v_84) 4 v_86) h87) (
k19 .normal (upd (upd (upd (upd (upd (upd (upd (upd (upd (upd (upd (upd (upd (upd (upd (upd (upd (upd (upd (upd (upd (upd (upd (upd (upd (upd (upd t 15 v_20) 5 i_22) 16 v_24) 17 v_26) 18 v_28) 19 v_30) 20 v_32) 21 v_34) 22 v_36) 23 v_38) 24 v_40) 25 v_42) 26 v_44) 27 v_46) 28 v_48) 29 v_51) 30 v_54) 31 v_57) 32 v_60) 33 v_63) 34 v_66) 35 v_69) 36 v_72) 37 v_75) 38 v_78) 39 v_81) 40 v_84) h83)

def L_attr_Same_2 (P : Program) (call : FuncId → List AVal → Heap → Res AVal) (fuel : Nat) (t : T) (h : Heap) : Res (Ex × T) :=
lt okK fun k =>
arb (.of (aBin P .lss 3 (.tmp 13) (.tmp 12) (t 13) (t 12)) h) call fun v_12 h13 =>
lt (sqK (J_attr_Same_3 P call fuel k) k) fun k88 =>
cb v_12 (
k88 .normal (upd t 14 v_12) h13) (
k88 (.exit 0) (upd t 14 v_12) h13)

def J_attr_Same_0 (P : Program) (call : FuncId → List AVal → Heap → Res AVal) (fuel : Nat) (k : Kn (AVal)) (t : T) (h : Heap) : Res (AVal) :=
lt (sqK (J_attr_Same_1 P call fuel k) k) fun k4 =>
arb (.val (t 0) h) call fun v_5 h6 =>
arb (.of (lenL v_5) h6) call fun v_7 h8 =>
arb (.val (.int .i64 0) h8) call fun v_9 h10 =>
lt (blkK 0 k4) fun k11 =>
(loopN (L_attr_Same_2 P call fuel) fuel (upd (upd (upd t 11 v_5) 12 v_7) 13 v_9) h10).bind (lpK k11)

def S_attr_Same (P : Program) (call : FuncId → List AVal → Heap → Res AVal) (fuel : Nat) (a_a0 b_a1 : AVal) (h : Heap) : Res AVal :=
lt (retK P [.tmp 4]) fun k =>
arb (.val (.bool false) h) call fun v_0 h1 =>
lt (sqK (J_attr_Same_0 P call fuel k) k) fun k89 =>
arb (.val a_a0 h1) call fun v_90 h91 =>
arb (.of (lenL v_90) h91) call fun v_92 h93 =>
arb (.val b_a1 h93) call fun v_94 h95 =>
arb (.of (lenL v_94) h95) call fun v_96 h97 =>
arb (.of (aBin P .neq 3 (.tmp 7) (.tmp 9) v_92 v_96) h97) call fun v_98 h99 =>
cb v_98 (
arb (.val (.bool false) h99) call fun v_100 h101 =>
k89 .ret (upd (upd (upd (upd (upd (upd (upd (enterT [a_a0, b_a1]) 4 v_0) 6 v_90) 7 v_92) 8 v_94) 9 v_96) 10 v_98) 4 v_100) h101) (
k89 .normal (upd (upd (upd (upd (upd (upd (enterT [a_a0, b_a1]) 4 v_0) 6 v_90) 7 v_92) 8 v_94) 9 v_96) 10 v_98) h99)
theorem E_attr_Same (call : FuncId → List AVal → Heap → Res AVal) (fuel : Nat) (a_a0 b_a1 : AVal) (h : Heap) : bodyR Try.prog call fuel Try.f12 [a_a0, b_a1] h = S_attr_Same Try.prog call fuel a_a0 b_a1 h := by kernel_rfl
theorem R_attr_Same {X : XTab} (a_a0 b_a1 : AVal) {h : Heap} {Q : AVal → Heap → Prop} (hx : X F_attr_Same [a_a0, b_a1] = none) (q : Tells (fun m => S_attr_Same Try.prog (acallX Try.prog X m) m a_a0 b_a1 h) Q) :
    Tells (fun m => acallX Try.prog X m F_attr_Same [a_a0, b_a1] h) Q :=
  Tells.later (q.le fun m => (E_attr_Same (acallX Try.prog X m) m a_a0 b_a1 h) ▸ acallX_le Try.func12 hx m h)

/-! ### precentor/attr.Copy -/

def S_attr_Copy (P : Program) (call : FuncId → List AVal → Heap → Res AVal) (fuel : Nat) (l_a0 : AVal) (h : Heap) : Res AVal :=
lt (retK P [.tmp 2]) fun k =>
arb (.val .nils h) call fun v_0 h1 =>
arb (.val l_a0 h1) call fun v_2 h3 =>
arb (appR 6 64 h3 .nils v_2) call fun v_4 h5 =>
arb (.val v_4 h5) call fun v_6 h7 =>
k .ret (upd (upd (upd (upd (enterT [l_a0]) 2 v_0) 3 v_2) 4 v_4) 2 v_6) h7
theorem E_attr_Copy (call : FuncId → List AVal → Heap → Res AVal) (fuel : Nat) (l_a0 : AVal) (h : Heap) : bodyR Try.prog call fuel Try.f13 [l_a0] h = S_attr_Copy Try.prog call fuel l_a0 h := by kernel_rfl
theorem R_attr_Copy {X : XTab} (l_a0 : AVal) {h : Heap} {Q : AVal → Heap → Prop} (hx : X F_attr_Copy [l_a0] = none) (q : Tells (fun m => S_attr_Copy Try.prog (acallX Try.prog X m) m l_a0 h) Q) :
    Tells (fun m => acallX Try.prog X m F_attr_Copy [l_a0] h) Q :=
  Tells.later (q.le fun m => (E_attr_Copy (acallX Try.prog X m) m l_a0 h) ▸ acallX_le Try.func13 hx m h)


end Go.Proofs.Ytfbipojncmkckaa
