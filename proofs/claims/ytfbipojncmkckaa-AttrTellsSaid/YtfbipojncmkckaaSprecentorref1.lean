/-
  Functions of precentorref1 in the form of YtfbipojncmkckaaABS (printed by a program of ours, gen.lean).
-/
import Derived.Test.YtfbipojncmkckaaSIds
set_option linter.unusedVariables false
namespace Go.Proofs.Ytfbipojncmkckaa
open Go.Ab
/-! ### precentor/precentorref1.Get -/
def J_precentorref1_Get_0 (P : Program) (call : FuncId → List AVal → Heap → Res AVal) (fuel : Nat) (k : Kn (AVal)) (t : T) (h : Heap) : Res (AVal) :=
arb (.of (bldR [(.int .i64 0), (.int .i64 0), (.flt .f64 0), (.str (bs [])), (.bool false)] []) h) call fun v_4 h5 =>
arb (stR 5 h5 (t 4) v_4) call fun v_6 h7 =>
arb (.val (.bool false) h7) call fun v_8 h9 =>
k .ret (upd (upd t 25 v_4) 5 v_8) h9

def J_precentorref1_Get_3 (P : Program) (call : FuncId → List AVal → Heap → Res AVal) (fuel : Nat) (k : Kn (Ex × T)) (t : T) (h : Heap) : Res (Ex × T) :=
arb (.val (t 6) h) call fun v_14 h15 =>
arb (.of (aBin P .add 3 (.tmp 11) (.const (.int .i64 1)) v_14 (.int .i64 1)) h15) call fun v_16 h17 =>
arb (.val v_16 h17) call fun i_18 h19 =>
k .normal (upd (upd (upd t 11 v_14) 12 v_16) 6 i_18) h19

def J_precentorref1_Get_2 (P : Program) (call : FuncId → List AVal → Heap → Res AVal) (fuel : Nat) (k : Kn (Ex × T)) (t : T) (h : Heap) : Res (Ex × T) :=
lt (sqK (J_precentorref1_Get_3 P call fuel k) k) fun k20 =>
lt (blkK 1 k20) fun k21 =>
arb (.val (t 0) h) call fun v_22 h23 =>
arb (.val (t 6) h23) call fun v_24 h25 =>
arb (.of (ixsR 6 v_22 v_24) h25) call fun v_26 h27 =>
arb (.of (fadR 0 v_26) h27) call fun v_28 h29 =>
arb (.of (ld1 h29 v_28) h29) call fun v_30 h31 =>
arb (.val (t 1) h31) call fun v_32 h33 =>
arb (.of (aBin P .eql 9 (.tmp 17) (.tmp 18) v_30 v_32) h33) call fun v_34 h35 =>
cb v_34 (
arb (.val (t 0) h35) call fun v_36 h37 =>
arb (.val (t 6) h37) call fun v_38 h39 =>
arb (.of (ixsR 6 v_36 v_38) h39) call fun v_40 h41 =>
arb (.of (fadR 1 v_40) h41) call fun v_42 h43 =>
arb (.of (ldn 5 h43 v_42) h43) call fun v_44 h45 =>
arb (stR 5 h45 (t 4) v_44) call fun v_46 h47 =>
arb (.val (.bool true) h47) call fun v_48 h49 =>
k21 .ret (upd (upd (upd (upd (upd (upd (upd (upd (upd (upd (upd (upd (upd t 13 v_22) 14 v_24) 15 v_26) 16 v_28) 17 v_30) 18 v_32) 19 v_34) 20 v_36) 21 v_38) 22 v_40) 23 v_42) 24 v_44) 5 v_48) h49) (
k21 .normal (upd (upd (upd (upd (upd (upd (upd t 13 v_22) 14 v_24) 15 v_26) 16 v_28) 17 v_30) 18 v_32) 19 v_34) h35)

def L_precentorref1_Get_1 (P : Program) (call : FuncId → List AVal → Heap → Res AVal) (fuel : Nat) (t : T) (h : Heap) : Res (Ex × T) :=
lt okK fun k =>
lt (sqK (J_precentorref1_Get_2 P call fuel k) k) fun k50 =>
arb (.val (t 6) h) call fun v_51 h52 =>
arb (.val (t 0) h52) call fun v_53 h54 =>
arb (.of (lenL v_53) h54) call fun v_55 h56 =>
arb (.of (aBin P .lss 3 (.tmp 7) (.tmp 9) v_51 v_55) h56) call fun v_57 h58 =>
cb v_57 (
k50 .normal (upd (upd (upd (upd t 7 v_51) 8 v_53) 9 v_55) 10 v_57) h58) (
k50 (.exit 0) (upd (upd (upd (upd t 7 v_51) 8 v_53) 9 v_55) 10 v_57) h58)

theorem C_precentorref1_Get_0 (h : Heap) (a : AVal) : aLoad Try.prog h 24 a = ldn 5 h a := by kernel_rfl
def S_precentorref1_Get (P : Program) (call : FuncId → List AVal → Heap → Res AVal) (fuel : Nat) (l_a0 name_a1 : AVal) (h : Heap) : Res AVal :=
lt (retK P [.cell 4 24, .tmp 5]) fun k =>
arb (newR [(.int .i64 0), (.int .i64 0), (.flt .f64 0), (.str (bs [])), (.bool false)] h) call fun v_0 h1 =>
arb (.val (.bool false) h1) call fun v_2 h3 =>
lt (sqK (J_precentorref1_Get_0 P call fuel k) k) fun k10 =>
arb (.val (.int .i64 0) h3) call fun i_11 h12 =>
lt (blkK 0 k10) fun k13 =>
(loopN (L_precentorref1_Get_1 P call fuel) fuel (upd (upd (upd (enterT [l_a0, name_a1]) 4 v_0) 5 v_2) 6 i_11) h12).bind (lpK k13)
theorem E_precentorref1_Get (call : FuncId → List AVal → Heap → Res AVal) (fuel : Nat) (l_a0 name_a1 : AVal) (h : Heap) : bodyR Try.prog call fuel Try.f16 [l_a0, name_a1] h = S_precentorref1_Get Try.prog call fuel l_a0 name_a1 h := by kernel_rfl
theorem R_precentorref1_Get {X : XTab} (l_a0 name_a1 : AVal) {h : Heap} {Q : AVal → Heap → Prop} (hx : X F_precentorref1_Get [l_a0, name_a1] = none) (q : Tells (fun m => S_precentorref1_Get Try.prog (acallX Try.prog X m) m l_a0 name_a1 h) Q) :
    Tells (fun m => acallX Try.prog X m F_precentorref1_Get [l_a0, name_a1] h) Q :=
  Tells.later (q.le fun m => (E_precentorref1_Get (acallX Try.prog X m) m l_a0 name_a1 h) ▸ acallX_le Try.func16 hx m h)

/-! ### precentor/precentorref1.SameValue -/

def S_precentorref1_SameValue (P : Program) (call : FuncId → List AVal → Heap → Res AVal) (fuel : Nat) (a_a0 b_a1 : AVal) (h : Heap) : Res AVal :=
lt (retK P [.tmp 4]) fun k =>
arb (boxR a_a0 h) call fun a_0 h1 =>
arb (boxR b_a1 h1) call fun b_2 h3 =>
arb (.val (.bool false) h3) call fun v_4 h5 =>
obv (.of (fadR 0 a_0) h5) fun v_6 =>
obv (.of (ld1 h5 v_6) h5) fun v_8 => ifb true <|
obv (.of (fadR 0 b_2) h5) fun v_10 =>
obv (.of (ld1 h5 v_10) h5) fun v_12 => ifb true <|
obv (.of (aBin P .eql 3 (.tmp 6) (.tmp 8) v_8 v_12) h5) fun v_14 =>
obv (.val v_14 h5) fun v_16 =>
gdr (wantB v_16 true) (fun c => obv (.of (fadR 1 a_0) h5) fun v_18 =>
c true v_18 h5) h5 fun w20 v_18 h20 =>
gdr (wantB v_16 true) (fun c => obv (.of (ld1 h20 v_18) h20) fun v_21 => ifb true <|
c true v_21 h20) h20 fun w23 v_21 h23 =>
gdr (wantB v_16 true) (fun c => obv (.of (fadR 1 b_2) h23) fun v_24 =>
c true v_24 h23) h23 fun w26 v_24 h26 =>
gdr (wantB v_16 true) (fun c => obv (.of (ld1 h26 v_24) h26) fun v_27 => ifb true <|
c true v_27 h26) h26 fun w29 v_27 h29 =>
gdr (wantB v_16 true) (fun c => obv (.of (aBin P .eql 2 (.tmp 12) (.tmp 14) v_21 v_27) h29) fun v_30 =>
c true v_30 h29) h29 fun w32 v_30 h32 =>
obv (pkR v_16 v_30 (.bool false) h32) fun v_33 =>
obv (.val v_33 h32) fun v_35 =>
gdr (wantB v_35 true) (fun c => obv (.of (fadR 2 a_0) h32) fun v_37 =>
c true v_37 h32) h32 fun w39 v_37 h39 =>
gdr (wantB v_35 true) (fun c => obv (.of (ld1 h39 v_37) h39) fun v_40 => ifb true <|
c true v_40 h39) h39 fun w42 v_40 h42 =>
gdr (wantB v_35 true) (fun c => arbE (.call F_precentorref1_Bits [v_40] h42) call fun v_43 h44 => lt h44 fun g44 => ifb (true && true) <|
c true v_43 g44) h42 fun w45 v_43 h45 =>
gdr (wantB v_35 true) (fun c => obv (.of (fadR 2 b_2) h45) fun v_46 =>
c true v_46 h45) h45 fun w48 v_46 h48 =>
gdr (wantB v_35 true) (fun c => obv (.of (ld1 h48 v_46) h48) fun v_49 => ifb ((!w45 || isV v_49 (arVal (.of (ld1 h42 v_46) h42))) && true) <|
c true v_49 h48) h48 fun w51 v_49 h51 =>
gdr (wantB v_35 true) (fun c => arbE (.call F_precentorref1_Bits [v_49] h51) call fun v_52 h53 => lt h53 fun g53 => ifb (true && true) <|
c true v_52 g53) h51 fun w54 v_52 h54 =>
gdr (wantB v_35 true) (fun c => obv (.of (aBin P .eql 50 (.tmp 20) (.tmp 23) v_43 v_52) h54) fun v_55 =>
c true v_55 h54) h54 fun w57 v_55 h57 =>
obv (pkR v_35 v_55 (.bool false) h57) fun v_58 =>
obv (.val v_58 h57) fun v_60 =>
gdr (wantB v_60 true) (fun c => obv (.of (fadR 3 a_0) h57) fun v_62 =>
c true v_62 h57) h57 fun w64 v_62 h64 =>
gdr (wantB v_60 true) (fun c => obv (.of (ld1 h64 v_62) h64) fun v_65 => ifb true <|
c true v_65 h64) h64 fun w67 v_65 h67 =>
gdr (wantB v_60 true) (fun c => obv (.of (fadR 3 b_2) h67) fun v_68 =>
c true v_68 h67) h67 fun w70 v_68 h70 =>
gdr (wantB v_60 true) (fun c => obv (.of (ld1 h70 v_68) h70) fun v_71 => ifb true <|
c true v_71 h70) h70 fun w73 v_71 h73 =>
gdr (wantB v_60 true) (fun c => obv (.of (aBin P .eql 9 (.tmp 28) (.tmp 30) v_65 v_71) h73) fun v_74 =>
c true v_74 h73) h73 fun w76 v_74 h76 =>
obv (pkR v_60 v_74 (.bool false) h76) fun v_77 =>
obv (.val v_77 h76) fun v_79 =>
gdr (wantB v_79 true) (fun c => obv (.of (fadR 4 a_0) h76) fun v_81 =>
c true v_81 h76) h76 fun w83 v_81 h83 =>
gdr (wantB v_79 true) (fun c => obv (.of (ld1 h83 v_81) h83) fun v_84 => ifb true <|
c true v_84 h83) h83 fun w86 v_84 h86 =>
gdr (wantB v_79 true) (fun c => obv (.of (fadR 4 b_2) h86) fun v_87 =>
c true v_87 h86) h86 fun w89 v_87 h89 =>
gdr (wantB v_79 true) (fun c => obv (.of (ld1 h89 v_87) h89) fun v_90 => ifb true <|
c true v_90 h89) h89 fun w92 v_90 h92 =>
gdr (wantB v_79 true) (fun c => obv (.of (aBin P .eql 4 (.tmp 35) (.tmp 37) v_84 v_90) h92) fun v_93 =>
c true v_93 h92) h92 fun w95 v_93 h95 =>
obv (pkR v_79 v_93 (.bool false) h95) fun v_96 =>
obv (.val v_96 h95) fun v_98 =>
k .ret (upd (upd (upd (upd (upd (upd (upd (upd (upd (upd (upd (upd (upd (upd (upd (upd (upd (upd (upd (upd (upd (upd (upd (upd (upd (upd (upd (upd (upd (upd (upd (upd (upd (upd (upd (upd (upd (upd (upd (enterT [a_a0, b_a1]) 2 a_0) 3 b_2) 4 v_4) 5 v_6) 6 v_8) 7 v_10) 8 v_12) 9 v_14) 10 v_16) 11 v_18) 12 v_21) 13 v_24) 14 v_27) 15 v_30) 16 v_33) 17 v_35) 18 v_37) 19 v_40) 20 v_43) 21 v_46) 22 v_49) 23 v_52) 24 v_55) 25 v_58) 26 v_60) 27 v_62) 28 v_65) 29 v_68) 30 v_71) 31 v_74) 32 v_77) 33 v_79) 34 v_81) 35 v_84) 36 v_87) 37 v_90) 38 v_93) 39 v_96) 4 v_98) h95
theorem E_precentorref1_SameValue (call : FuncId → List AVal → Heap → Res AVal) (fuel : Nat) (a_a0 b_a1 : AVal) (h : Heap) : bodyR Try.prog call fuel Try.f17 [a_a0, b_a1] h = S_precentorref1_SameValue Try.prog call fuel a_a0 b_a1 h := by kernel_rfl
theorem R_precentorref1_SameValue {X : XTab} (a_a0 b_a1 : AVal) {h : Heap} {Q : AVal → Heap → Prop} (hx : X F_precentorref1_SameValue [a_a0, b_a1] = none) (q : Tells (fun m => S_precentorref1_SameValue Try.prog (acallX Try.prog X m) m a_a0 b_a1 h) Q) :
    Tells (fun m => acallX Try.prog X m F_precentorref1_SameValue [a_a0, b_a1] h) Q :=
  Tells.later (q.le fun m => (E_precentorref1_SameValue (acallX Try.prog X m) m a_a0 b_a1 h) ▸ acallX_le Try.func17 hx m h)

/-! ### precentor/precentorref1.Word -/
def J_precentorref1_Word_0 (P : Program) (call : FuncId → List AVal → Heap → Res AVal) (fuel : Nat) (k : Kn (AVal)) (t : T) (h : Heap) : Res (AVal) :=
arb (.val (t 0) h) call fun v_2 h3 =>
arb (.of (lenS v_2) h3) call fun v_4 h5 =>
arb (.of (aBin P .geq 3 (.tmp 21) (.const (.int .i64 1)) v_4 (.int .i64 1)) h5) call fun v_6 h7 =>
arb (.val v_6 h7) call fun v_8 h9 =>
gd (wantB v_8 true) (fun c => arb (.val (t 0) h9) call c) h9 fun v_10 h11 =>
gd (wantB v_8 true) (fun c => arb (.of (lenS v_10) h11) call c) h11 fun v_12 h13 =>
gd (wantB v_8 true) (fun c => arb (.of (aBin P .leq 3 (.tmp 25) (.const (.int .i64 6)) v_12 (.int .i64 6)) h13) call c) h13 fun v_14 h15 =>
arb (pkR v_8 v_14 (.bool false) h15) call fun v_16 h17 =>
arb (.val v_16 h17) call fun v_18 h19 =>
k .ret (upd (upd (upd (upd (upd (upd (upd (upd (upd t 20 v_2) 21 v_4) 22 v_6) 23 v_8) 24 v_10) 25 v_12) 26 v_14) 27 v_16) 2 v_18) h19

def J_precentorref1_Word_3 (P : Program) (call : FuncId → List AVal → Heap → Res AVal) (fuel : Nat) (k : Kn (Ex × T)) (t : T) (h : Heap) : Res (Ex × T) :=
arb (.val (t 3) h) call fun v_24 h25 =>
arb (.of (aBin P .add 3 (.tmp 8) (.const (.int .i64 1)) v_24 (.int .i64 1)) h25) call fun v_26 h27 =>
arb (.val v_26 h27) call fun i_28 h29 =>
k .normal (upd (upd (upd t 8 v_24) 9 v_26) 3 i_28) h29

def J_precentorref1_Word_2 (P : Program) (call : FuncId → List AVal → Heap → Res AVal) (fuel : Nat) (k : Kn (Ex × T)) (t : T) (h : Heap) : Res (Ex × T) :=
lt (sqK (J_precentorref1_Word_3 P call fuel k) k) fun k30 =>
lt (blkK 1 k30) fun k31 =>
arb (.val (t 0) h) call fun v_32 h33 =>
arb (.val (t 3) h33) call fun v_34 h35 =>
arb (.of (ixtR v_32 v_34) h35) call fun v_36 h37 =>
arb (.of (aBin P .lss 5 (.tmp 12) (.const (.int .u8 97)) v_36 (.int .u8 97)) h37) call fun v_38 h39 =>
arb (.val v_38 h39) call fun v_40 h41 =>
gd (wantB v_40 false) (fun c => arb (.val (t 0) h41) call c) h41 fun v_42 h43 =>
gd (wantB v_40 false) (fun c => arb (.val (t 3) h43) call c) h43 fun v_44 h45 =>
gd (wantB v_40 false) (fun c => arb (.of (ixtR v_42 v_44) h45) call c) h45 fun v_46 h47 =>
gd (wantB v_40 false) (fun c => arb (.of (aBin P .gtr 5 (.tmp 17) (.const (.int .u8 122)) v_46 (.int .u8 122)) h47) call c) h47 fun v_48 h49 =>
arb (pkR v_40 (.bool true) v_48 h49) call fun v_50 h51 =>
cb v_50 (
arb (.val (.bool false) h51) call fun v_52 h53 =>
k31 .ret (upd (upd (upd (upd (upd (upd (upd (upd (upd (upd (upd t 10 v_32) 11 v_34) 12 v_36) 13 v_38) 14 v_40) 15 v_42) 16 v_44) 17 v_46) 18 v_48) 19 v_50) 2 v_52) h53) (
k31 .normal (upd (upd (upd (upd (upd (upd (upd (upd (upd (upd t 10 v_32) 11 v_34) 12 v_36) 13 v_38) 14 v_40) 15 v_42) 16 v_44) 17 v_46) 18 v_48) 19 v_50) h51)

def L_precentorref1_Word_1 (P : Program) (call : FuncId → List AVal → Heap → Res AVal) (fuel : Nat) (t : T) (h : Heap) : Res (Ex × T) :=
lt okK fun k =>
lt (sqK (J_precentorref1_Word_2 P call fuel k) k) fun k54 =>
arb (.val (t 3) h) call fun v_55 h56 =>
arb (.val (t 0) h56) call fun v_57 h58 =>
arb (.of (lenS v_57) h58) call fun v_59 h60 =>
arb (.of (aBin P .lss 3 (.tmp 4) (.tmp 6) v_55 v_59) h60) call fun v_61 h62 =>
cb v_61 (
k54 .normal (upd (upd (upd (upd t 4 v_55) 5 v_57) 6 v_59) 7 v_61) h62) (
k54 (.exit 0) (upd (upd (upd (upd t 4 v_55) 5 v_57) 6 v_59) 7 v_61) h62)

def S_precentorref1_Word (P : Program) (call : FuncId → List AVal → Heap → Res AVal) (fuel : Nat) (s_a0 : AVal) (h : Heap) : Res AVal :=
lt (retK P [.tmp 2]) fun k =>
arb (.val (.bool false) h) call fun v_0 h1 =>
lt (sqK (J_precentorref1_Word_0 P call fuel k) k) fun k20 =>
arb (.val (.int .i64 0) h1) call fun i_21 h22 =>
lt (blkK 0 k20) fun k23 =>
(loopN (L_precentorref1_Word_1 P call fuel) fuel (upd (upd (enterT [s_a0]) 2 v_0) 3 i_21) h22).bind (lpK k23)
theorem E_precentorref1_Word (call : FuncId → List AVal → Heap → Res AVal) (fuel : Nat) (s_a0 : AVal) (h : Heap) : bodyR Try.prog call fuel Try.f18 [s_a0] h = S_precentorref1_Word Try.prog call fuel s_a0 h := by kernel_rfl
theorem R_precentorref1_Word {X : XTab} (s_a0 : AVal) {h : Heap} {Q : AVal → Heap → Prop} (hx : X F_precentorref1_Word [s_a0] = none) (q : Tells (fun m => S_precentorref1_Word Try.prog (acallX Try.prog X m) m s_a0 h) Q) :
    Tells (fun m => acallX Try.prog X m F_precentorref1_Word [s_a0] h) Q :=
  Tells.later (q.le fun m => (E_precentorref1_Word (acallX Try.prog X m) m s_a0 h) ▸ acallX_le Try.func18 hx m h)

/-! ### precentor/precentorref1.RightAttrs -/
def J_precentorref1_RightAttrs_0 (P : Program) (call : FuncId → List AVal → Heap → Res AVal) (fuel : Nat) (k : Kn (AVal)) (t : T) (h : Heap) : Res (AVal) :=
arb (.val (t 0) h) call fun v_2 h3 =>
arb (.of (lenL v_2) h3) call fun v_4 h5 =>
arb (.of (aBin P .leq 3 (.tmp 45) (.const (.int .i64 5)) v_4 (.int .i64 5)) h5) call fun v_6 h7 =>
arb (.val v_6 h7) call fun v_8 h9 =>
k .ret (upd (upd (upd (upd t 44 v_2) 45 v_4) 46 v_6) 2 v_8) h9

def J_precentorref1_RightAttrs_3 (P : Program) (call : FuncId → List AVal → Heap → Res AVal) (fuel : Nat) (k : Kn (Ex × T)) (t : T) (h : Heap) : Res (Ex × T) :=
arb (.val (t 3) h) call fun v_14 h15 =>
arb (.of (aBin P .add 3 (.tmp 8) (.const (.int .i64 1)) v_14 (.int .i64 1)) h15) call fun v_16 h17 =>
arb (.val v_16 h17) call fun i_18 h19 =>
k .normal (upd (upd (upd t 8 v_14) 9 v_16) 3 i_18) h19

def J_precentorref1_RightAttrs_2 (P : Program) (call : FuncId → List AVal → Heap → Res AVal) (fuel : Nat) (k : Kn (Ex × T)) (t : T) (h : Heap) : Res (Ex × T) :=
lt (sqK (J_precentorref1_RightAttrs_3 P call fuel k) k) fun k20 =>
lt (blkK 1 k20) fun k21 =>
obv (.val (t 0) h) fun v_22 =>
obv (.val (t 3) h) fun v_24 =>
obv (.of (ixsR 6 v_22 v_24) h) fun v_26 =>
obv (.of (fadR 0 v_26) h) fun v_28 =>
obv (.of (ld1 h v_28) h) fun v_30 => ifb true <|
arbE (.call F_precentorref1_Word [v_30] h) call fun v_32 h33 => lt h33 fun g33 => ifb (true && true) <|
obv (.of (aUn P .not v_32) g33) fun v_34 =>
obv (.val v_34 g33) fun v_36 =>
gdr (wantB v_36 false) (fun c => obv (.val (t 0) g33) fun v_38 =>
c true v_38 g33) g33 fun w40 v_38 h40 =>
gdr (wantB v_36 false) (fun c => obv (.val (t 3) h40) fun v_41 =>
c true v_41 h40) h40 fun w43 v_41 h43 =>
gdr (wantB v_36 false) (fun c => obv (.of (ixsR 6 v_38 v_41) h43) fun v_44 =>
c true v_44 h43) h43 fun w46 v_44 h46 =>
gdr (wantB v_36 false) (fun c => obv (.of (fadR 1 v_44) h46) fun v_47 =>
c true v_47 h46) h46 fun w49 v_47 h49 =>
gdr (wantB v_36 false) (fun c => obv (.of (ldn 5 h49 v_47) h49) fun v_50 => ifb true <|
c true v_50 h49) h49 fun w52 v_50 h52 =>
gdr (wantB v_36 false) (fun c => arbE (.call F_precentorref1_RightValue [v_50] h52) call fun v_53 h54 => lt h54 fun g54 => ifb (true && true) <|
c true v_53 g54) h52 fun w55 v_53 h55 =>
gdr (wantB v_36 false) (fun c => obv (.of (aUn P .not v_53) h55) fun v_56 =>
c true v_56 h55) h55 fun w58 v_56 h58 =>
obv (pkR v_36 (.bool true) v_56 h58) fun v_59 =>
obv (.val v_59 h58) fun v_61 =>
gdr (wantB v_61 false) (fun c => obv (.val (t 3) h58) fun v_63 =>
c true v_63 h58) h58 fun w65 v_63 h65 =>
gdr (wantB v_61 false) (fun c => obv (.of (aBin P .gtr 3 (.tmp 27) (.const (.int .i64 0)) v_63 (.int .i64 0)) h65) fun v_66 =>
c true v_66 h65) h65 fun w68 v_66 h68 =>
gdr (wantB v_61 false) (fun c => obv (.val v_66 h68) fun v_69 =>
c true v_69 h68) h68 fun w71 v_69 h71 =>
gdr (wantB v_69 true) (fun c => obv (.val (t 0) h71) fun v_72 =>
c true v_72 h71) h71 fun w74 v_72 h74 =>
gdr (wantB v_69 true) (fun c => obv (.val (t 3) h74) fun v_75 =>
c true v_75 h74) h74 fun w77 v_75 h77 =>
gdr (wantB v_69 true) (fun c => obv (.of (aBin P .sub 3 (.tmp 31) (.const (.int .i64 1)) v_75 (.int .i64 1)) h77) fun v_78 =>
c true v_78 h77) h77 fun w80 v_78 h80 =>
gdr (wantB v_69 true) (fun c => obv (.of (ixsR 6 v_72 v_78) h80) fun v_81 =>
c true v_81 h80) h80 fun w83 v_81 h83 =>
gdr (wantB v_69 true) (fun c => obv (.of (fadR 0 v_81) h83) fun v_84 =>
c true v_84 h83) h83 fun w86 v_84 h86 =>
gdr (wantB v_69 true) (fun c => obv (.of (ld1 h86 v_84) h86) fun v_87 => ifb true <|
c true v_87 h86) h86 fun w89 v_87 h89 =>
gdr (wantB v_69 true) (fun c => obv (.val (t 0) h89) fun v_90 =>
c true v_90 h89) h89 fun w92 v_90 h92 =>
gdr (wantB v_69 true) (fun c => obv (.val (t 3) h92) fun v_93 =>
c true v_93 h92) h92 fun w95 v_93 h95 =>
gdr (wantB v_69 true) (fun c => obv (.of (ixsR 6 v_90 v_93) h95) fun v_96 =>
c true v_96 h95) h95 fun w98 v_96 h98 =>
gdr (wantB v_69 true) (fun c => obv (.of (fadR 0 v_96) h98) fun v_99 =>
c true v_99 h98) h98 fun w101 v_99 h101 =>
gdr (wantB v_69 true) (fun c => obv (.of (ld1 h101 v_99) h101) fun v_102 => ifb true <|
c true v_102 h101) h101 fun w104 v_102 h104 =>
gdr (wantB v_69 true) (fun c => obv (.of (aBin P .geq 9 (.tmp 35) (.tmp 40) v_87 v_102) h104) fun v_105 =>
c true v_105 h104) h104 fun w107 v_105 h107 =>
gdr (wantB v_61 false) (fun c => obv (pkR v_69 v_105 (.bool false) h107) fun v_108 =>
c true v_108 h107) h107 fun w110 v_108 h110 =>
obv (pkR v_61 (.bool true) v_108 h110) fun v_111 =>
cb v_111 (
arb (.val (.bool false) h110) call fun v_113 h114 =>
k21 .ret (upd (upd (upd (upd (upd (upd (upd (upd (upd (upd (upd (upd (upd (upd (upd (upd (upd (upd (upd (upd (upd (upd (upd (upd (upd (upd (upd (upd (upd (upd (upd (upd (upd (upd (upd t 10 v_22) 11 v_24) 12 v_26) 13 v_28) 14 v_30) 15 v_32) 16 v_34) 17 v_36) 18 v_38) 19 v_41) 20 v_44) 21 v_47) 22 v_50) 23 v_53) 24 v_56) 25 v_59) 26 v_61) 27 v_63) 28 v_66) 29 v_69) 30 v_72) 31 v_75) 32 v_78) 33 v_81) 34 v_84) 35 v_87) 36 v_90) 37 v_93) 38 v_96) 39 v_99) 40 v_102) 41 v_105) 42 v_108) 43 v_111) 2 v_113) h114) (
k21 .normal (upd (upd (upd (upd (upd (upd (upd (upd (upd (upd (upd (upd (upd (upd (upd (upd (upd (upd (upd (upd (upd (upd (upd (upd (upd (upd (upd (upd (upd (upd (upd (upd (upd (upd t 10 v_22) 11 v_24) 12 v_26) 13 v_28) 14 v_30) 15 v_32) 16 v_34) 17 v_36) 18 v_38) 19 v_41) 20 v_44) 21 v_47) 22 v_50) 23 v_53) 24 v_56) 25 v_59) 26 v_61) 27 v_63) 28 v_66) 29 v_69) 30 v_72) 31 v_75) 32 v_78) 33 v_81) 34 v_84) 35 v_87) 36 v_90) 37 v_93) 38 v_96) 39 v_99) 40 v_102) 41 v_105) 42 v_108) 43 v_111) h110)

def L_precentorref1_RightAttrs_1 (P : Program) (call : FuncId → List AVal → Heap → Res AVal) (fuel : Nat) (t : T) (h : Heap) : Res (Ex × T) :=
lt okK fun k =>
lt (sqK (J_precentorref1_RightAttrs_2 P call fuel k) k) fun k115 =>
arb (.val (t 3) h) call fun v_116 h117 =>
arb (.val (t 0) h117) call fun v_118 h119 =>
arb (.of (lenL v_118) h119) call fun v_120 h121 =>
arb (.of (aBin P .lss 3 (.tmp 4) (.tmp 6) v_116 v_120) h121) call fun v_122 h123 =>
cb v_122 (
k115 .normal (upd (upd (upd (upd t 4 v_116) 5 v_118) 6 v_120) 7 v_122) h123) (
k115 (.exit 0) (upd (upd (upd (upd t 4 v_116) 5 v_118) 6 v_120) 7 v_122) h123)

def S_precentorref1_RightAttrs (P : Program) (call : FuncId → List AVal → Heap → Res AVal) (fuel : Nat) (l_a0 : AVal) (h : Heap) : Res AVal :=
lt (retK P [.tmp 2]) fun k =>
arb (.val (.bool false) h) call fun v_0 h1 =>
lt (sqK (J_precentorref1_RightAttrs_0 P call fuel k) k) fun k10 =>
arb (.val (.int .i64 0) h1) call fun i_11 h12 =>
lt (blkK 0 k10) fun k13 =>
(loopN (L_precentorref1_RightAttrs_1 P call fuel) fuel (upd (upd (enterT [l_a0]) 2 v_0) 3 i_11) h12).bind (lpK k13)
theorem E_precentorref1_RightAttrs (call : FuncId → List AVal → Heap → Res AVal) (fuel : Nat) (l_a0 : AVal) (h : Heap) : bodyR Try.prog call fuel Try.f20 [l_a0] h = S_precentorref1_RightAttrs Try.prog call fuel l_a0 h := by kernel_rfl
theorem R_precentorref1_RightAttrs {X : XTab} (l_a0 : AVal) {h : Heap} {Q : AVal → Heap → Prop} (hx : X F_precentorref1_RightAttrs [l_a0] = none) (q : Tells (fun m => S_precentorref1_RightAttrs Try.prog (acallX Try.prog X m) m l_a0 h) Q) :
    Tells (fun m => acallX Try.prog X m F_precentorref1_RightAttrs [l_a0] h) Q :=
  Tells.later (q.le fun m => (E_precentorref1_RightAttrs (acallX Try.prog X m) m l_a0 h) ▸ acallX_le Try.func20 hx m h)

/-! ### precentor/precentorref1.SameAttrs -/
def J_precentorref1_SameAttrs_1 (P : Program) (call : FuncId → List AVal → Heap → Res AVal) (fuel : Nat) (k : Kn (AVal)) (t : T) (h : Heap) : Res (AVal) :=
arb (.val (.bool true) h) call fun v_2 h3 =>
k .ret (upd t 4 v_2) h3

def J_precentorref1_SameAttrs_4 (P : Program) (call : FuncId → List AVal → Heap → Res AVal) (fuel : Nat) (k : Kn (Ex × T)) (t : T) (h : Heap) : Res (Ex × T) :=
arb (.val (t 5) h) call fun v_8 h9 =>
arb (.of (aBin P .add 3 (.tmp 15) (.const (.int .i64 1)) v_8 (.int .i64 1)) h9) call fun v_10 h11 =>
arb (.val v_10 h11) call fun i_12 h13 =>
k .normal (upd (upd (upd t 15 v_8) 16 v_10) 5 i_12) h13

def J_precentorref1_SameAttrs_3 (P : Program) (call : FuncId → List AVal → Heap → Res AVal) (fuel : Nat) (k : Kn (Ex × T)) (t : T) (h : Heap) : Res (Ex × T) :=
lt (sqK (J_precentorref1_SameAttrs_4 P call fuel k) k) fun k14 =>
lt (blkK 1 k14) fun k15 =>
obv (.val (t 0) h) fun v_16 =>
obv (.val (t 5) h) fun v_18 =>
obv (.of (ixsR 6 v_16 v_18) h) fun v_20 =>
obv (.of (fadR 0 v_20) h) fun v_22 =>
obv (.of (ld1 h v_22) h) fun v_24 => ifb true <|
obv (.val (t 1) h) fun v_26 =>
obv (.val (t 5) h) fun v_28 =>
obv (.of (ixsR 6 v_26 v_28) h) fun v_30 =>
obv (.of (fadR 0 v_30) h) fun v_32 =>
obv (.of (ld1 h v_32) h) fun v_34 => ifb true <|
obv (.of (aBin P .neq 9 (.tmp 21) (.tmp 26) v_24 v_34) h) fun v_36 =>
obv (.val v_36 h) fun v_38 =>
gdr (wantB v_38 false) (fun c => obv (.val (t 0) h) fun v_40 =>
c true v_40 h) h fun w42 v_40 h42 =>
gdr (wantB v_38 false) (fun c => obv (.val (t 5) h42) fun v_43 =>
c true v_43 h42) h42 fun w45 v_43 h45 =>
gdr (wantB v_38 false) (fun c => obv (.of (ixsR 6 v_40 v_43) h45) fun v_46 =>
c true v_46 h45) h45 fun w48 v_46 h48 =>
gdr (wantB v_38 false) (fun c => obv (.of (fadR 1 v_46) h48) fun v_49 =>
c true v_49 h48) h48 fun w51 v_49 h51 =>
gdr (wantB v_38 false) (fun c => obv (.of (ldn 5 h51 v_49) h51) fun v_52 => ifb true <|
c true v_52 h51) h51 fun w54 v_52 h54 =>
gdr (wantB v_38 false) (fun c => obv (.val (t 1) h54) fun v_55 =>
c true v_55 h54) h54 fun w57 v_55 h57 =>
gdr (wantB v_38 false) (fun c => obv (.val (t 5) h57) fun v_58 =>
c true v_58 h57) h57 fun w60 v_58 h60 =>
gdr (wantB v_38 false) (fun c => obv (.of (ixsR 6 v_55 v_58) h60) fun v_61 =>
c true v_61 h60) h60 fun w63 v_61 h63 =>
gdr (wantB v_38 false) (fun c => obv (.of (fadR 1 v_61) h63) fun v_64 =>
c true v_64 h63) h63 fun w66 v_64 h66 =>
gdr (wantB v_38 false) (fun c => obv (.of (ldn 5 h66 v_64) h66) fun v_67 => ifb true <|
c true v_67 h66) h66 fun w69 v_67 h69 =>
gdr (wantB v_38 false) (fun c => arbE (.call F_precentorref1_SameValue [v_52, v_67] h69) call fun v_70 h71 => lt h71 fun g71 => ifb (true && true) <|
c true v_70 g71) h69 fun w72 v_70 h72 =>
gdr (wantB v_38 false) (fun c => obv (.of (aUn P .not v_70) h72) fun v_73 =>
c true v_73 h72) h72 fun w75 v_73 h75 =>
obv (pkR v_38 (.bool true) v_73 h75) fun v_76 =>
cb v_76 (
arb (.val (.bool false) h75) call fun v_78 h79 =>
k15 .ret (upd (upd (upd (upd (upd (upd (upd (upd (upd (upd (upd (upd (upd (upd (upd (upd (upd (upd (upd (upd (upd (upd (upd (upd (upd (upd t 17 v_16) 18 v_18) 19 v_20) 20 v_22) 21 v_24) 22 v_26) 23 v_28) 24 v_30) 25 v_32) 26 v_34) 27 v_36) 28 v_38) 29 v_40) 30 v_43) 31 v_46) 32 v_49) 33 v_52) 34 v_55) 35 v_58) 36 v_61) 37 v_64) 38 v_67) 39 v_70) 40 v_73) 41 v_76) 4 v_78) h79) (
k15 .normal (upd (upd (upd (upd (upd (upd (upd (upd (upd (upd (upd (upd (upd (upd (upd (upd (upd (upd (upd (upd (upd (upd (upd (upd (upd t 17 v_16) 18 v_18) 19 v_20) 20 v_22) 21 v_24) 22 v_26) 23 v_28) 24 v_30) 25 v_32) 26 v_34) 27 v_36) 28 v_38) 29 v_40) 30 v_43) 31 v_46) 32 v_49) 33 v_52) 34 v_55) 35 v_58) 36 v_61) 37 v_64) 38 v_67) 39 v_70) 40 v_73) 41 v_76) h75)

def L_precentorref1_SameAttrs_2 (P : Program) (call : FuncId → List AVal → Heap → Res AVal) (fuel : Nat) (t : T) (h : Heap) : Res (Ex × T) :=
lt okK fun k =>
lt (sqK (J_precentorref1_SameAttrs_3 P call fuel k) k) fun k80 =>
arb (.val (t 5) h) call fun v_81 h82 =>
arb (.val (t 0) h82) call fun v_83 h84 =>
arb (.of (lenL v_83) h84) call fun v_85 h86 =>
arb (.of (aBin P .lss 3 (.tmp 11) (.tmp 13) v_81 v_85) h86) call fun v_87 h88 =>
cb v_87 (
k80 .normal (upd (upd (upd (upd t 11 v_81) 12 v_83) 13 v_85) 14 v_87) h88) (
k80 (.exit 0) (upd (upd (upd (upd t 11 v_81) 12 v_83) 13 v_85) 14 v_87) h88)

def J_precentorref1_SameAttrs_0 (P : Program) (call : FuncId → List AVal → Heap → Res AVal) (fuel : Nat) (k : Kn (AVal)) (t : T) (h : Heap) : Res (AVal) :=
lt (sqK (J_precentorref1_SameAttrs_1 P call fuel k) k) fun k4 =>
arb (.val (.int .i64 0) h) call fun i_5 h6 =>
lt (blkK 0 k4) fun k7 =>
(loopN (L_precentorref1_SameAttrs_2 P call fuel) fuel (upd t 5 i_5) h6).bind (lpK k7)

def S_precentorref1_SameAttrs (P : Program) (call : FuncId → List AVal → Heap → Res AVal) (fuel : Nat) (a_a0 b_a1 : AVal) (h : Heap) : Res AVal :=
lt (retK P [.tmp 4]) fun k =>
arb (.val (.bool false) h) call fun v_0 h1 =>
lt (sqK (J_precentorref1_SameAttrs_0 P call fuel k) k) fun k89 =>
arb (.val a_a0 h1) call fun v_90 h91 =>
arb (.of (lenL v_90) h91) call fun v_92 h93 =>
arb (.val b_a1 h93) call fun v_94 h95 =>
arb (.of (lenL v_94) h95) call fun v_96 h97 =>
arb (.of (aBin P .neq 3 (.tmp 7) (.tmp 9) v_92 v_96) h97) call fun v_98 h99 =>
cb v_98 (
arb (.val (.bool false) h99) call fun v_100 h101 =>
k89 .ret (upd (upd (upd (upd (upd (upd (upd (enterT [a_a0, b_a1]) 4 v_0) 6 v_90) 7 v_92) 8 v_94) 9 v_96) 10 v_98) 4 v_100) h101) (
k89 .normal (upd (upd (upd (upd (upd (upd (enterT [a_a0, b_a1]) 4 v_0) 6 v_90) 7 v_92) 8 v_94) 9 v_96) 10 v_98) h99)
theorem E_precentorref1_SameAttrs (call : FuncId → List AVal → Heap → Res AVal) (fuel : Nat) (a_a0 b_a1 : AVal) (h : Heap) : bodyR Try.prog call fuel Try.f21 [a_a0, b_a1] h = S_precentorref1_SameAttrs Try.prog call fuel a_a0 b_a1 h := by kernel_rfl
theorem R_precentorref1_SameAttrs {X : XTab} (a_a0 b_a1 : AVal) {h : Heap} {Q : AVal → Heap → Prop} (hx : X F_precentorref1_SameAttrs [a_a0, b_a1] = none) (q : Tells (fun m => S_precentorref1_SameAttrs Try.prog (acallX Try.prog X m) m a_a0 b_a1 h) Q) :
    Tells (fun m => acallX Try.prog X m F_precentorref1_SameAttrs [a_a0, b_a1] h) Q :=
  Tells.later (q.le fun m => (E_precentorref1_SameAttrs (acallX Try.prog X m) m a_a0 b_a1 h) ▸ acallX_le Try.func21 hx m h)

/-! ### precentor/precentorref1.Bits -/
def J_precentorref1_Bits_1 (P : Program) (call : FuncId → List AVal → Heap → Res AVal) (fuel : Nat) (k : Kn (AVal)) (t : T) (h : Heap) : Res (AVal) :=
arb (.val (t 0) h) call fun v_2 h3 =>
arb (.of (aNat P F_math_Float64bits [v_2]) h3) call fun v_4 h5 =>
arb (.val v_4 h5) call fun v_6 h7 =>
k .ret (upd (upd (upd t 8 v_2) 9 v_4) 2 v_6) h7

def J_precentorref1_Bits_0 (P : Program) (call : FuncId → List AVal → Heap → Res AVal) (fuel : Nat) (k : Kn (AVal)) (t : T) (h : Heap) : Res (AVal) :=
lt (sqK (J_precentorref1_Bits_1 P call fuel k) k) fun k8 =>
arb (.val (t 0) h) call fun v_9 h10 =>
arb (.of (aBin P .eql 22 (.tmp 6) (.const (.float .f64 0)) v_9 (.flt .f64 0)) h10) call fun v_11 h12 =>
cb v_11 (
arb (.val (.int .u64 0) h12) call fun v_13 h14 =>
k8 .ret (upd (upd (upd t 6 v_9) 7 v_11) 2 v_13) h14) (
k8 .normal (upd (upd t 6 v_9) 7 v_11) h12)

def S_precentorref1_Bits (P : Program) (call : FuncId → List AVal → Heap → Res AVal) (fuel : Nat) (x_a0 : AVal) (h : Heap) : Res AVal :=
lt (retK P [.tmp 2]) fun k =>
arb (.val (.int .u64 0) h) call fun v_0 h1 =>
lt (sqK (J_precentorref1_Bits_0 P call fuel k) k) fun k15 =>
arb (.val x_a0 h1) call fun v_16 h17 =>
arb (.val x_a0 h17) call fun v_18 h19 =>
arb (.of (aBin P .neq 22 (.tmp 3) (.tmp 4) v_16 v_18) h19) call fun v_20 h21 =>
cb v_20 (
arb (.val (.int .u64 9221120237041090560) h21) call fun v_22 h23 =>
k15 .ret (upd (upd (upd (upd (upd (enterT [x_a0]) 2 v_0) 3 v_16) 4 v_18) 5 v_20) 2 v_22) h23) (
k15 .normal (upd (upd (upd (upd (enterT [x_a0]) 2 v_0) 3 v_16) 4 v_18) 5 v_20) h21)
theorem E_precentorref1_Bits (call : FuncId → List AVal → Heap → Res AVal) (fuel : Nat) (x_a0 : AVal) (h : Heap) : bodyR Try.prog call fuel Try.f26 [x_a0] h = S_precentorref1_Bits Try.prog call fuel x_a0 h := by kernel_rfl
theorem R_precentorref1_Bits {X : XTab} (x_a0 : AVal) {h : Heap} {Q : AVal → Heap → Prop} (hx : X F_precentorref1_Bits [x_a0] = none) (q : Tells (fun m => S_precentorref1_Bits Try.prog (acallX Try.prog X m) m x_a0 h) Q) :
    Tells (fun m => acallX Try.prog X m F_precentorref1_Bits [x_a0] h) Q :=
  Tells.later (q.le fun m => (E_precentorref1_Bits (acallX Try.prog X m) m x_a0 h) ▸ acallX_le Try.func26 hx m h)

/-! ### precentor/precentorref1.RightValue -/
def J_precentorref1_RightValue_0 (P : Program) (call : FuncId → List AVal → Heap → Res AVal) (fuel : Nat) (k : Kn (AVal)) (t : T) (h : Heap) : Res (AVal) :=
arb (.val (.bool false) h) call fun v_20 h21 =>
k .ret (upd t 2 v_20) h21

def S_precentorref1_RightValue (P : Program) (call : FuncId → List AVal → Heap → Res AVal) (fuel : Nat) (v_a0 : AVal) (h : Heap) : Res AVal :=
lt (retK P [.tmp 2]) fun k =>
arb (boxR v_a0 h) call fun v_0 h1 =>
arb (.val (.bool false) h1) call fun v_2 h3 =>
obv (.of (fadR 1 v_0) h3) fun v_4 =>
obv (.of (ld1 h3 v_4) h3) fun v_5 =>
obv (.of (aBin P .eql 2 (.tmp 8) (.const (.int .i64 0)) v_5 (.int .i64 0)) h3) fun v_6 =>
obv (.of (fadR 2 v_0) h3) fun v_7 =>
obv (.of (ld1 h3 v_7) h3) fun v_8 =>
obv (.of (aBin P .eql 22 (.tmp 11) (.const (.float .f64 0)) v_8 (.flt .f64 0)) h3) fun v_9 =>
obv (.of (fadR 3 v_0) h3) fun v_10 =>
obv (.of (ld1 h3 v_10) h3) fun v_11 =>
obv (.of (aBin P .eql 9 (.tmp 14) (.const (.string (bs []))) v_11 (.str (bs []))) h3) fun v_12 =>
obv (.of (fadR 4 v_0) h3) fun v_13 =>
obv (.of (ld1 h3 v_13) h3) fun v_14 =>
obv (.of (aUn P .not v_14) h3) fun v_15 =>
obv (.val v_6 h3) fun n_16 =>
obv (.val v_9 h3) fun x_17 =>
obv (.val v_12 h3) fun s_18 =>
obv (.val v_15 h3) fun b_19 =>
lt (sqK (J_precentorref1_RightValue_0 P call fuel k) k) fun k22 =>
arb (.of (fadR 0 v_0) h3) call fun v_23 h24 =>
arb (.of (ld1 h24 v_23) h24) call fun v_25 h26 =>
lt (blkK 0 k22) fun k27 =>
arb (.of (aBin P .eql 3 (.tmp 20) (.const (.int .i64 1)) v_25 (.int .i64 1)) h26) call fun v_28 h29 =>
arb (.val v_28 h29) call fun v_30 h31 =>
cb v_30 (
arb (.val x_17 h31) call fun v_32 h33 =>
arb (.val v_32 h33) call fun v_34 h35 =>
gd (wantB v_34 true) (fun c => arb (.val s_18 h35) call c) h35 fun v_36 h37 =>
arb (pkR v_34 v_36 (.bool false) h37) call fun v_38 h39 =>
arb (.val v_38 h39) call fun v_40 h41 =>
gd (wantB v_40 true) (fun c => arb (.val b_19 h41) call c) h41 fun v_42 h43 =>
arb (pkR v_40 v_42 (.bool false) h43) call fun v_44 h45 =>
arb (.val v_44 h45) call fun v_46 h47 =>
k27 .ret (upd (upd (upd (upd (upd (upd (upd (upd (upd (upd (upd (upd (upd (upd (upd (upd (upd (upd (upd (upd (upd (upd (upd (upd (upd (upd (upd (upd (upd (upd (enterT [v_a0]) 1 v_0) 2 v_2) 7 v_4) 8 v_5) 9 v_6) 10 v_7) 11 v_8) 12 v_9) 13 v_10) 14 v_11) 15 v_12) 16 v_13) 17 v_14) 18 v_15) 3 n_16) 4 x_17) 5 s_18) 6 b_19) 19 v_23) 20 v_25) 22 v_28) 21 v_30) 23 v_32) 24 v_34) 25 v_36) 26 v_38) 27 v_40) 28 v_42) 29 v_44) 2 v_46) h47) (
arb (.of (aBin P .eql 3 (.tmp 20) (.const (.int .i64 2)) v_25 (.int .i64 2)) h31) call fun v_48 h49 =>
arb (.val v_48 h49) call fun v_50 h51 =>
cb v_50 (
arb (.val n_16 h51) call fun v_52 h53 =>
arb (.val v_52 h53) call fun v_54 h55 =>
gd (wantB v_54 true) (fun c => arb (.val s_18 h55) call c) h55 fun v_56 h57 =>
arb (pkR v_54 v_56 (.bool false) h57) call fun v_58 h59 =>
arb (.val v_58 h59) call fun v_60 h61 =>
gd (wantB v_60 true) (fun c => arb (.val b_19 h61) call c) h61 fun v_62 h63 =>
arb (pkR v_60 v_62 (.bool false) h63) call fun v_64 h65 =>
arb (.val v_64 h65) call fun v_66 h67 =>
k27 .ret (upd (upd (upd (upd (upd (upd (upd (upd (upd (upd (upd (upd (upd (upd (upd (upd (upd (upd (upd (upd (upd (upd (upd (upd (upd (upd (upd (upd (upd (upd (upd (upd (enterT [v_a0]) 1 v_0) 2 v_2) 7 v_4) 8 v_5) 9 v_6) 10 v_7) 11 v_8) 12 v_9) 13 v_10) 14 v_11) 15 v_12) 16 v_13) 17 v_14) 18 v_15) 3 n_16) 4 x_17) 5 s_18) 6 b_19) 19 v_23) 20 v_25) 22 v_28) 21 v_30) 31 v_48) 30 v_50) 32 v_52) 33 v_54) 34 v_56) 35 v_58) 36 v_60) 37 v_62) 38 v_64) 2 v_66) h67) (
arb (.of (aBin P .eql 3 (.tmp 20) (.const (.int .i64 3)) v_25 (.int .i64 3)) h51) call fun v_68 h69 =>
arb (.val v_68 h69) call fun v_70 h71 =>
cb v_70 (
arb (.val n_16 h71) call fun v_72 h73 =>
arb (.val v_72 h73) call fun v_74 h75 =>
gd (wantB v_74 true) (fun c => arb (.val x_17 h75) call c) h75 fun v_76 h77 =>
arb (pkR v_74 v_76 (.bool false) h77) call fun v_78 h79 =>
arb (.val v_78 h79) call fun v_80 h81 =>
gd (wantB v_80 true) (fun c => arb (.val b_19 h81) call c) h81 fun v_82 h83 =>
arb (pkR v_80 v_82 (.bool false) h83) call fun v_84 h85 =>
arb (.val v_84 h85) call fun v_86 h87 =>
gd (wantB v_86 true) (fun c => arb (.of (fadR 3 v_0) h87) call c) h87 fun v_88 h89 =>
gd (wantB v_86 true) (fun c => arb (.of (ld1 h89 v_88) h89) call c) h89 fun v_90 h91 =>
gd (wantB v_86 true) (fun c => arb (.of (lenS v_90) h91) call c) h91 fun v_92 h93 =>
gd (wantB v_86 true) (fun c => arb (.of (aBin P .leq 3 (.tmp 51) (.const (.int .i64 12)) v_92 (.int .i64 12)) h93) call c) h93 fun v_94 h95 =>
arb (pkR v_86 v_94 (.bool false) h95) call fun v_96 h97 =>
arb (.val v_96 h97) call fun v_98 h99 =>
k27 .ret (upd (upd (upd (upd (upd (upd (upd (upd (upd (upd (upd (upd (upd (upd (upd (upd (upd (upd (upd (upd (upd (upd (upd (upd (upd (upd (upd (upd (upd (upd (upd (upd (upd (upd (upd (upd (upd (upd (upd (upd (enterT [v_a0]) 1 v_0) 2 v_2) 7 v_4) 8 v_5) 9 v_6) 10 v_7) 11 v_8) 12 v_9) 13 v_10) 14 v_11) 15 v_12) 16 v_13) 17 v_14) 18 v_15) 3 n_16) 4 x_17) 5 s_18) 6 b_19) 19 v_23) 20 v_25) 22 v_28) 21 v_30) 31 v_48) 30 v_50) 40 v_68) 39 v_70) 41 v_72) 42 v_74) 43 v_76) 44 v_78) 45 v_80) 46 v_82) 47 v_84) 48 v_86) 49 v_88) 50 v_90) 51 v_92) 52 v_94) 53 v_96) 2 v_98) h99) (
arb (.of (aBin P .eql 3 (.tmp 20) (.const (.int .i64 4)) v_25 (.int .i64 4)) h71) call fun v_100 h101 =>
arb (.val v_100 h101) call fun v_102 h103 =>
cb v_102 (
arb (.val n_16 h103) call fun v_104 h105 =>
arb (.val v_104 h105) call fun v_106 h107 =>
gd (wantB v_106 true) (fun c => arb (.val x_17 h107) call c) h107 fun v_108 h109 =>
arb (pkR v_106 v_108 (.bool false) h109) call fun v_110 h111 =>
arb (.val v_110 h111) call fun v_112 h113 =>
gd (wantB v_112 true) (fun c => arb (.val s_18 h113) call c) h113 fun v_114 h115 =>
arb (pkR v_112 v_114 (.bool false) h115) call fun v_116 h117 =>
arb (.val v_116 h117) call fun v_118 h119 =>
k27 .ret (upd (upd (upd (upd (upd (upd (upd (upd (upd (upd (upd (upd (upd (upd (upd (upd (upd (upd (upd (upd (upd (upd (upd (upd (upd (upd (upd (upd (upd (upd (upd (upd (upd (upd (upd (upd (enterT [v_a0]) 1 v_0) 2 v_2) 7 v_4) 8 v_5) 9 v_6) 10 v_7) 11 v_8) 12 v_9) 13 v_10) 14 v_11) 15 v_12) 16 v_13) 17 v_14) 18 v_15) 3 n_16) 4 x_17) 5 s_18) 6 b_19) 19 v_23) 20 v_25) 22 v_28) 21 v_30) 31 v_48) 30 v_50) 40 v_68) 39 v_70) 55 v_100) 54 v_102) 56 v_104) 57 v_106) 58 v_108) 59 v_110) 60 v_112) 61 v_114) 62 v_116) 2 v_118) h119) (
k27 .normal (upd (upd (upd (upd (upd (upd (upd (upd (upd (upd (upd (upd (upd (upd (upd (upd (upd (upd (upd (upd (upd (upd (upd (upd (upd (upd (upd (upd (enterT [v_a0]) 1 v_0) 2 v_2) 7 v_4) 8 v_5) 9 v_6) 10 v_7) 11 v_8) 12 v_9) 13 v_10) 14 v_11) 15 v_12) 16 v_13) 17 v_14) 18 v_15) 3 n_16) 4 x_17) 5 s_18) 6 b_19) 19 v_23) 20 v_25) 22 v_28) 21 v_30) 31 v_48) 30 v_50) 40 v_68) 39 v_70) 55 v_100) 54 v_102) h103))))
theorem E_precentorref1_RightValue (call : FuncId → List AVal → Heap → Res AVal) (fuel : Nat) (v_a0 : AVal) (h : Heap) : bodyR Try.prog call fuel Try.f27 [v_a0] h = S_precentorref1_RightValue Try.prog call fuel v_a0 h := by kernel_rfl
theorem R_precentorref1_RightValue {X : XTab} (v_a0 : AVal) {h : Heap} {Q : AVal → Heap → Prop} (hx : X F_precentorref1_RightValue [v_a0] = none) (q : Tells (fun m => S_precentorref1_RightValue Try.prog (acallX Try.prog X m) m v_a0 h) Q) :
    Tells (fun m => acallX Try.prog X m F_precentorref1_RightValue [v_a0] h) Q :=
  Tells.later (q.le fun m => (E_precentorref1_RightValue (acallX Try.prog X m) m v_a0 h) ▸ acallX_le Try.func27 hx m h)


end Go.Proofs.Ytfbipojncmkckaa
