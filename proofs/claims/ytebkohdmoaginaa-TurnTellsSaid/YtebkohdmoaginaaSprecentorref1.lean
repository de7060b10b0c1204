/-
  Functions of precentorref1 in the form of YtebkohdmoaginaaABS (printed by a program of ours, gen.lean).
-/
import Derived.Test.YtebkohdmoaginaaSIds
set_option linter.unusedVariables false
namespace Go.Proofs.Ytebkohdmoaginaa
open Go.Ab
/-! ### precentor/precentorref1.SameSub -/

def S_precentorref1_SameSub (P : Program) (call : FuncId → List AVal → Heap → Res AVal) (fuel : Nat) (a_a0 b_a1 : AVal) (h : Heap) : Res AVal :=
lt (retK P [.tmp 4]) fun k =>
arb (boxR a_a0 h) call fun a_0 h1 =>
arb (boxR b_a1 h1) call fun b_2 h3 =>
arb (.val (.bool false) h3) call fun v_4 h5 =>
arb (.of (fadR 0 a_0) h5) call fun v_6 h7 =>
arb (.of (ld1 h7 v_6) h7) call fun v_8 h9 =>
arb (.of (fadR 0 b_2) h9) call fun v_10 h11 =>
arb (.of (ld1 h11 v_10) h11) call fun v_12 h13 =>
arb (.of (aBin P .eql 3 (.tmp 6) (.tmp 8) v_8 v_12) h13) call fun v_14 h15 =>
arb (.val v_14 h15) call fun v_16 h17 =>
gd (wantB v_16 true) (fun c => arb (.of (fadR 1 a_0) h17) call c) h17 fun v_18 h19 =>
gd (wantB v_16 true) (fun c => arb (.of (ld1 h19 v_18) h19) call c) h19 fun v_20 h21 =>
gd (wantB v_16 true) (fun c => arb (.of (fadR 1 b_2) h21) call c) h21 fun v_22 h23 =>
gd (wantB v_16 true) (fun c => arb (.of (ld1 h23 v_22) h23) call c) h23 fun v_24 h25 =>
gd (wantB v_16 true) (fun c => arb (.of (aBin P .eql 3 (.tmp 12) (.tmp 14) v_20 v_24) h25) call c) h25 fun v_26 h27 =>
arb (pkR v_16 v_26 (.bool false) h27) call fun v_28 h29 =>
arb (.val v_28 h29) call fun v_30 h31 =>
gd (wantB v_30 true) (fun c => arb (.of (fadR 2 a_0) h31) call c) h31 fun v_32 h33 =>
gd (wantB v_30 true) (fun c => arb (.of (ld1 h33 v_32) h33) call c) h33 fun v_34 h35 =>
gd (wantB v_30 true) (fun c => arb (.of (fadR 2 b_2) h35) call c) h35 fun v_36 h37 =>
gd (wantB v_30 true) (fun c => arb (.of (ld1 h37 v_36) h37) call c) h37 fun v_38 h39 =>
gd (wantB v_30 true) (fun c => arb (.of (aBin P .eql 3 (.tmp 19) (.tmp 21) v_34 v_38) h39) call c) h39 fun v_40 h41 =>
arb (pkR v_30 v_40 (.bool false) h41) call fun v_42 h43 =>
arb (.val v_42 h43) call fun v_44 h45 =>
gd (wantB v_44 true) (fun c => arb (.of (fadR 3 a_0) h45) call c) h45 fun v_46 h47 =>
gd (wantB v_44 true) (fun c => arb (.of (ld1 h47 v_46) h47) call c) h47 fun v_48 h49 =>
gd (wantB v_44 true) (fun c => arb (.of (fadR 3 b_2) h49) call c) h49 fun v_50 h51 =>
gd (wantB v_44 true) (fun c => arb (.of (ld1 h51 v_50) h51) call c) h51 fun v_52 h53 =>
gd (wantB v_44 true) (fun c => arb (.call F_precentorref1_SameFilter [v_48, v_52] h53) call c) h53 fun v_54 h55 =>
arb (pkR v_44 v_54 (.bool false) h55) call fun v_56 h57 =>
arb (.val v_56 h57) call fun v_58 h59 =>
k .ret (upd (upd (upd (upd (upd (upd (upd (upd (upd (upd (upd (upd (upd (upd (upd (upd (upd (upd (upd (upd (upd (upd (upd (upd (upd (upd (upd (upd (upd (upd (enterT [a_a0, b_a1]) 2 a_0) 3 b_2) 4 v_4) 5 v_6) 6 v_8) 7 v_10) 8 v_12) 9 v_14) 10 v_16) 11 v_18) 12 v_20) 13 v_22) 14 v_24) 15 v_26) 16 v_28) 17 v_30) 18 v_32) 19 v_34) 20 v_36) 21 v_38) 22 v_40) 23 v_42) 24 v_44) 25 v_46) 26 v_48) 27 v_50) 28 v_52) 29 v_54) 30 v_56) 4 v_58) h59
theorem E_precentorref1_SameSub (call : FuncId → List AVal → Heap → Res AVal) (fuel : Nat) (a_a0 b_a1 : AVal) (h : Heap) : bodyR Try.prog call fuel Try.f23 [a_a0, b_a1] h = S_precentorref1_SameSub Try.prog call fuel a_a0 b_a1 h := by kernel_rfl
theorem R_precentorref1_SameSub {X : XTab} (a_a0 b_a1 : AVal) {h : Heap} {Q : AVal → Heap → Prop} (hx : X F_precentorref1_SameSub [a_a0, b_a1] = none) (q : Tells (fun m => S_precentorref1_SameSub Try.prog (acallX Try.prog X m) m a_a0 b_a1 h) Q) :
    Tells (fun m => acallX Try.prog X m F_precentorref1_SameSub [a_a0, b_a1] h) Q :=
  Tells.later (q.le fun m => (E_precentorref1_SameSub (acallX Try.prog X m) m a_a0 b_a1 h) ▸ acallX_le Try.func23 hx m h)

/-! ### precentor/precentorref1.SameFilter -/
def J_precentorref1_SameFilter_1 (P : Program) (call : FuncId → List AVal → Heap → Res AVal) (fuel : Nat) (k : Kn (AVal)) (t : T) (h : Heap) : Res (AVal) :=
arb (.val (.bool true) h) call fun v_2 h3 =>
k .ret (upd t 4 v_2) h3

def J_precentorref1_SameFilter_4 (P : Program) (call : FuncId → List AVal → Heap → Res AVal) (fuel : Nat) (k : Kn (Ex × T)) (t : T) (h : Heap) : Res (Ex × T) :=
arb (.val (t 5) h) call fun v_8 h9 =>
arb (.of (aBin P .add 3 (.tmp 15) (.const (.int .i64 1)) v_8 (.int .i64 1)) h9) call fun v_10 h11 =>
arb (.val v_10 h11) call fun i_12 h13 =>
k .normal (upd (upd (upd t 15 v_8) 16 v_10) 5 i_12) h13

def J_precentorref1_SameFilter_3 (P : Program) (call : FuncId → List AVal → Heap → Res AVal) (fuel : Nat) (k : Kn (Ex × T)) (t : T) (h : Heap) : Res (Ex × T) :=
lt (sqK (J_precentorref1_SameFilter_4 P call fuel k) k) fun k14 =>
lt (blkK 1 k14) fun k15 =>
obv (.val (t 0) h) fun v_16 =>
obv (.val (t 5) h) fun v_18 =>
obv (.of (ixsR 13 v_16 v_18) h) fun v_20 =>
obv (.of (ldn 13 h v_20) h) fun v_22 => ifb true <|
obv (.val (t 1) h) fun v_24 =>
obv (.val (t 5) h) fun v_26 =>
obv (.of (ixsR 13 v_24 v_26) h) fun v_28 =>
obv (.of (ldn 13 h v_28) h) fun v_30 => ifb true <|
arbE (.call F_precentorref1_SamePred [v_22, v_30] h) call fun v_32 h33 => lt h33 fun g33 => ifb (true && true) <|
obv (.of (aUn P .not v_32) g33) fun v_34 =>
cb v_34 (
arb (.val (.bool false) g33) call fun v_36 h37 =>
k15 .ret (upd (upd (upd (upd (upd (upd (upd (upd (upd (upd (upd t 17 v_16) 18 v_18) 19 v_20) 20 v_22) 21 v_24) 22 v_26) 23 v_28) 24 v_30) 25 v_32) 26 v_34) 4 v_36) h37) (
k15 .normal (upd (upd (upd (upd (upd (upd (upd (upd (upd (upd t 17 v_16) 18 v_18) 19 v_20) 20 v_22) 21 v_24) 22 v_26) 23 v_28) 24 v_30) 25 v_32) 26 v_34) g33)

def L_precentorref1_SameFilter_2 (P : Program) (call : FuncId → List AVal → Heap → Res AVal) (fuel : Nat) (t : T) (h : Heap) : Res (Ex × T) :=
lt okK fun k =>
lt (sqK (J_precentorref1_SameFilter_3 P call fuel k) k) fun k38 =>
arb (.val (t 5) h) call fun v_39 h40 =>
arb (.val (t 0) h40) call fun v_41 h42 =>
arb (.of (lenL v_41) h42) call fun v_43 h44 =>
arb (.of (aBin P .lss 3 (.tmp 11) (.tmp 13) v_39 v_43) h44) call fun v_45 h46 =>
cb v_45 (
k38 .normal (upd (upd (upd (upd t 11 v_39) 12 v_41) 13 v_43) 14 v_45) h46) (
k38 (.exit 0) (upd (upd (upd (upd t 11 v_39) 12 v_41) 13 v_43) 14 v_45) h46)

def J_precentorref1_SameFilter_0 (P : Program) (call : FuncId → List AVal → Heap → Res AVal) (fuel : Nat) (k : Kn (AVal)) (t : T) (h : Heap) : Res (AVal) :=
lt (sqK (J_precentorref1_SameFilter_1 P call fuel k) k) fun k4 =>
arb (.val (.int .i64 0) h) call fun i_5 h6 =>
lt (blkK 0 k4) fun k7 =>
(loopN (L_precentorref1_SameFilter_2 P call fuel) fuel (upd t 5 i_5) h6).bind (lpK k7)

def S_precentorref1_SameFilter (P : Program) (call : FuncId → List AVal → Heap → Res AVal) (fuel : Nat) (f_a0 g_a1 : AVal) (h : Heap) : Res AVal :=
lt (retK P [.tmp 4]) fun k =>
arb (.val (.bool false) h) call fun v_0 h1 =>
lt (sqK (J_precentorref1_SameFilter_0 P call fuel k) k) fun k47 =>
arb (.val f_a0 h1) call fun v_48 h49 =>
arb (.of (lenL v_48) h49) call fun v_50 h51 =>
arb (.val g_a1 h51) call fun v_52 h53 =>
arb (.of (lenL v_52) h53) call fun v_54 h55 =>
arb (.of (aBin P .neq 3 (.tmp 7) (.tmp 9) v_50 v_54) h55) call fun v_56 h57 =>
cb v_56 (
arb (.val (.bool false) h57) call fun v_58 h59 =>
k47 .ret (upd (upd (upd (upd (upd (upd (upd (enterT [f_a0, g_a1]) 4 v_0) 6 v_48) 7 v_50) 8 v_52) 9 v_54) 10 v_56) 4 v_58) h59) (
k47 .normal (upd (upd (upd (upd (upd (upd (enterT [f_a0, g_a1]) 4 v_0) 6 v_48) 7 v_50) 8 v_52) 9 v_54) 10 v_56) h57)
theorem E_precentorref1_SameFilter (call : FuncId → List AVal → Heap → Res AVal) (fuel : Nat) (f_a0 g_a1 : AVal) (h : Heap) : bodyR Try.prog call fuel Try.f37 [f_a0, g_a1] h = S_precentorref1_SameFilter Try.prog call fuel f_a0 g_a1 h := by kernel_rfl
theorem R_precentorref1_SameFilter {X : XTab} (f_a0 g_a1 : AVal) {h : Heap} {Q : AVal → Heap → Prop} (hx : X F_precentorref1_SameFilter [f_a0, g_a1] = none) (q : Tells (fun m => S_precentorref1_SameFilter Try.prog (acallX Try.prog X m) m f_a0 g_a1 h) Q) :
    Tells (fun m => acallX Try.prog X m F_precentorref1_SameFilter [f_a0, g_a1] h) Q :=
  Tells.later (q.le fun m => (E_precentorref1_SameFilter (acallX Try.prog X m) m f_a0 g_a1 h) ▸ acallX_le Try.func37 hx m h)

/-! ### precentor/precentorref1.SamePred -/

def S_precentorref1_SamePred (P : Program) (call : FuncId → List AVal → Heap → Res AVal) (fuel : Nat) (a_a0 b_a1 : AVal) (h : Heap) : Res AVal :=
lt (retK P [.tmp 4]) fun k =>
arb (boxR a_a0 h) call fun a_0 h1 =>
arb (boxR b_a1 h1) call fun b_2 h3 =>
arb (.val (.bool false) h3) call fun v_4 h5 =>
arb (.of (fadR 0 a_0) h5) call fun v_6 h7 =>
arb (.of (ld1 h7 v_6) h7) call fun v_8 h9 =>
arb (.of (fadR 0 b_2) h9) call fun v_10 h11 =>
arb (.of (ld1 h11 v_10) h11) call fun v_12 h13 =>
arb (.of (aBin P .eql 9 (.tmp 6) (.tmp 8) v_8 v_12) h13) call fun v_14 h15 =>
arb (.val v_14 h15) call fun v_16 h17 =>
gd (wantB v_16 true) (fun c => arb (.of (fadR 1 a_0) h17) call c) h17 fun v_18 h19 =>
gd (wantB v_16 true) (fun c => arb (.of (ld1 h19 v_18) h19) call c) h19 fun v_20 h21 =>
gd (wantB v_16 true) (fun c => arb (.of (fadR 1 b_2) h21) call c) h21 fun v_22 h23 =>
gd (wantB v_16 true) (fun c => arb (.of (ld1 h23 v_22) h23) call c) h23 fun v_24 h25 =>
gd (wantB v_16 true) (fun c => arb (.of (aBin P .eql 3 (.tmp 12) (.tmp 14) v_20 v_24) h25) call c) h25 fun v_26 h27 =>
arb (pkR v_16 v_26 (.bool false) h27) call fun v_28 h29 =>
arb (.val v_28 h29) call fun v_30 h31 =>
gd (wantB v_30 true) (fun c => arb (.of (fadR 2 a_0) h31) call c) h31 fun v_32 h33 =>
gd (wantB v_30 true) (fun c => arb (.of (ldn 5 h33 v_32) h33) call c) h33 fun v_34 h35 =>
gd (wantB v_30 true) (fun c => arb (.of (fadR 2 b_2) h35) call c) h35 fun v_36 h37 =>
gd (wantB v_30 true) (fun c => arb (.of (ldn 5 h37 v_36) h37) call c) h37 fun v_38 h39 =>
gd (wantB v_30 true) (fun c => arb (.call F_precentorref1_SameValue [v_34, v_38] h39) call c) h39 fun v_40 h41 =>
arb (pkR v_30 v_40 (.bool false) h41) call fun v_42 h43 =>
arb (.val v_42 h43) call fun v_44 h45 =>
gd (wantB v_44 true) (fun c => arb (.of (fadR 7 a_0) h45) call c) h45 fun v_46 h47 =>
gd (wantB v_44 true) (fun c => arb (.of (ldn 5 h47 v_46) h47) call c) h47 fun v_48 h49 =>
gd (wantB v_44 true) (fun c => arb (.of (fadR 7 b_2) h49) call c) h49 fun v_50 h51 =>
gd (wantB v_44 true) (fun c => arb (.of (ldn 5 h51 v_50) h51) call c) h51 fun v_52 h53 =>
gd (wantB v_44 true) (fun c => arb (.call F_precentorref1_SameValue [v_48, v_52] h53) call c) h53 fun v_54 h55 =>
arb (pkR v_44 v_54 (.bool false) h55) call fun v_56 h57 =>
arb (.val v_56 h57) call fun v_58 h59 =>
gd (wantB v_58 true) (fun c => arb (.of (fadR 12 a_0) h59) call c) h59 fun v_60 h61 =>
gd (wantB v_58 true) (fun c => arb (.of (ld1 h61 v_60) h61) call c) h61 fun v_62 h63 =>
gd (wantB v_58 true) (fun c => arb (.of (fadR 12 b_2) h63) call c) h63 fun v_64 h65 =>
gd (wantB v_58 true) (fun c => arb (.of (ld1 h65 v_64) h65) call c) h65 fun v_66 h67 =>
gd (wantB v_58 true) (fun c => arb (.call F_precentorref1_sameValues [v_62, v_66] h67) call c) h67 fun v_68 h69 =>
arb (pkR v_58 v_68 (.bool false) h69) call fun v_70 h71 =>
arb (.val v_70 h71) call fun v_72 h73 =>
k .ret (upd (upd (upd (upd (upd (upd (upd (upd (upd (upd (upd (upd (upd (upd (upd (upd (upd (upd (upd (upd (upd (upd (upd (upd (upd (upd (upd (upd (upd (upd (upd (upd (upd (upd (upd (upd (upd (enterT [a_a0, b_a1]) 2 a_0) 3 b_2) 4 v_4) 5 v_6) 6 v_8) 7 v_10) 8 v_12) 9 v_14) 10 v_16) 11 v_18) 12 v_20) 13 v_22) 14 v_24) 15 v_26) 16 v_28) 17 v_30) 18 v_32) 19 v_34) 20 v_36) 21 v_38) 22 v_40) 23 v_42) 24 v_44) 25 v_46) 26 v_48) 27 v_50) 28 v_52) 29 v_54) 30 v_56) 31 v_58) 32 v_60) 33 v_62) 34 v_64) 35 v_66) 36 v_68) 37 v_70) 4 v_72) h73
theorem E_precentorref1_SamePred (call : FuncId → List AVal → Heap → Res AVal) (fuel : Nat) (a_a0 b_a1 : AVal) (h : Heap) : bodyR Try.prog call fuel Try.f41 [a_a0, b_a1] h = S_precentorref1_SamePred Try.prog call fuel a_a0 b_a1 h := by kernel_rfl
theorem R_precentorref1_SamePred {X : XTab} (a_a0 b_a1 : AVal) {h : Heap} {Q : AVal → Heap → Prop} (hx : X F_precentorref1_SamePred [a_a0, b_a1] = none) (q : Tells (fun m => S_precentorref1_SamePred Try.prog (acallX Try.prog X m) m a_a0 b_a1 h) Q) :
    Tells (fun m => acallX Try.prog X m F_precentorref1_SamePred [a_a0, b_a1] h) Q :=
  Tells.later (q.le fun m => (E_precentorref1_SamePred (acallX Try.prog X m) m a_a0 b_a1 h) ▸ acallX_le Try.func41 hx m h)

/-! ### precentor/precentorref1.SameValue -/

def S_precentorref1_SameValue (P : Program) (call : FuncId → List AVal → Heap → Res AVal) (fuel : Nat) (a_a0 b_a1 : AVal) (h : Heap) : Res AVal :=
lt (retK P [.tmp 4]) fun k =>
arb (boxR a_a0 h) call fun a_0 h1 =>
arb (boxR b_a1 h1) call fun b_2 h3 =>
arb (.val (.bool false) h3) call fun v_4 h5 =>
obv (.of (fadR 0 a_0) h5) fun v_6 =>
obv (.of (ld1 h5 v_6) h5) fun v_8 => ifb true <|
obv (.of (fadR 0 b_2) h5) fun v_10 =>
obv (.of (ld1 h5 v_10) h5) fun v_12 => ifb true <|
obv (.of (aBin P .eql 3 (.tmp 6) (.tmp 8) v_8 v_12) h5) fun v_14 =>
obv (.val v_14 h5) fun v_16 =>
gdr (wantB v_16 true) (fun c => obv (.of (fadR 1 a_0) h5) fun v_18 =>
c true v_18 h5) h5 fun w20 v_18 h20 =>
gdr (wantB v_16 true) (fun c => obv (.of (ld1 h20 v_18) h20) fun v_21 => ifb true <|
c true v_21 h20) h20 fun w23 v_21 h23 =>
gdr (wantB v_16 true) (fun c => obv (.of (fadR 1 b_2) h23) fun v_24 =>
c true v_24 h23) h23 fun w26 v_24 h26 =>
gdr (wantB v_16 true) (fun c => obv (.of (ld1 h26 v_24) h26) fun v_27 => ifb true <|
c true v_27 h26) h26 fun w29 v_27 h29 =>
gdr (wantB v_16 true) (fun c => obv (.of (aBin P .eql 2 (.tmp 12) (.tmp 14) v_21 v_27) h29) fun v_30 =>
c true v_30 h29) h29 fun w32 v_30 h32 =>
obv (pkR v_16 v_30 (.bool false) h32) fun v_33 =>
obv (.val v_33 h32) fun v_35 =>
gdr (wantB v_35 true) (fun c => obv (.of (fadR 2 a_0) h32) fun v_37 =>
c true v_37 h32) h32 fun w39 v_37 h39 =>
gdr (wantB v_35 true) (fun c => obv (.of (ld1 h39 v_37) h39) fun v_40 => ifb true <|
c true v_40 h39) h39 fun w42 v_40 h42 =>
gdr (wantB v_35 true) (fun c => arbE (.call F_precentorref1_Bits [v_40] h42) call fun v_43 h44 => lt h44 fun g44 => ifb (true && true) <|
c true v_43 g44) h42 fun w45 v_43 h45 =>
gdr (wantB v_35 true) (fun c => obv (.of (fadR 2 b_2) h45) fun v_46 =>
c true v_46 h45) h45 fun w48 v_46 h48 =>
gdr (wantB v_35 true) (fun c => obv (.of (ld1 h48 v_46) h48) fun v_49 => ifb ((!w45 || isV v_49 (arVal (.of (ld1 h42 v_46) h42))) && true) <|
c true v_49 h48) h48 fun w51 v_49 h51 =>
gdr (wantB v_35 true) (fun c => arbE (.call F_precentorref1_Bits [v_49] h51) call fun v_52 h53 => lt h53 fun g53 => ifb (true && true) <|
c true v_52 g53) h51 fun w54 v_52 h54 =>
gdr (wantB v_35 true) (fun c => obv (.of (aBin P .eql 74 (.tmp 20) (.tmp 23) v_43 v_52) h54) fun v_55 =>
c true v_55 h54) h54 fun w57 v_55 h57 =>
obv (pkR v_35 v_55 (.bool false) h57) fun v_58 =>
obv (.val v_58 h57) fun v_60 =>
gdr (wantB v_60 true) (fun c => obv (.of (fadR 3 a_0) h57) fun v_62 =>
c true v_62 h57) h57 fun w64 v_62 h64 =>
gdr (wantB v_60 true) (fun c => obv (.of (ld1 h64 v_62) h64) fun v_65 => ifb true <|
c true v_65 h64) h64 fun w67 v_65 h67 =>
gdr (wantB v_60 true) (fun c => obv (.of (fadR 3 b_2) h67) fun v_68 =>
c true v_68 h67) h67 fun w70 v_68 h70 =>
gdr (wantB v_60 true) (fun c => obv (.of (ld1 h70 v_68) h70) fun v_71 => ifb true <|
c true v_71 h70) h70 fun w73 v_71 h73 =>
gdr (wantB v_60 true) (fun c => obv (.of (aBin P .eql 9 (.tmp 28) (.tmp 30) v_65 v_71) h73) fun v_74 =>
c true v_74 h73) h73 fun w76 v_74 h76 =>
obv (pkR v_60 v_74 (.bool false) h76) fun v_77 =>
obv (.val v_77 h76) fun v_79 =>
gdr (wantB v_79 true) (fun c => obv (.of (fadR 4 a_0) h76) fun v_81 =>
c true v_81 h76) h76 fun w83 v_81 h83 =>
gdr (wantB v_79 true) (fun c => obv (.of (ld1 h83 v_81) h83) fun v_84 => ifb true <|
c true v_84 h83) h83 fun w86 v_84 h86 =>
gdr (wantB v_79 true) (fun c => obv (.of (fadR 4 b_2) h86) fun v_87 =>
c true v_87 h86) h86 fun w89 v_87 h89 =>
gdr (wantB v_79 true) (fun c => obv (.of (ld1 h89 v_87) h89) fun v_90 => ifb true <|
c true v_90 h89) h89 fun w92 v_90 h92 =>
gdr (wantB v_79 true) (fun c => obv (.of (aBin P .eql 4 (.tmp 35) (.tmp 37) v_84 v_90) h92) fun v_93 =>
c true v_93 h92) h92 fun w95 v_93 h95 =>
obv (pkR v_79 v_93 (.bool false) h95) fun v_96 =>
obv (.val v_96 h95) fun v_98 =>
k .ret (upd (upd (upd (upd (upd (upd (upd (upd (upd (upd (upd (upd (upd (upd (upd (upd (upd (upd (upd (upd (upd (upd (upd (upd (upd (upd (upd (upd (upd (upd (upd (upd (upd (upd (upd (upd (upd (upd (upd (enterT [a_a0, b_a1]) 2 a_0) 3 b_2) 4 v_4) 5 v_6) 6 v_8) 7 v_10) 8 v_12) 9 v_14) 10 v_16) 11 v_18) 12 v_21) 13 v_24) 14 v_27) 15 v_30) 16 v_33) 17 v_35) 18 v_37) 19 v_40) 20 v_43) 21 v_46) 22 v_49) 23 v_52) 24 v_55) 25 v_58) 26 v_60) 27 v_62) 28 v_65) 29 v_68) 30 v_71) 31 v_74) 32 v_77) 33 v_79) 34 v_81) 35 v_84) 36 v_87) 37 v_90) 38 v_93) 39 v_96) 4 v_98) h95
theorem E_precentorref1_SameValue (call : FuncId → List AVal → Heap → Res AVal) (fuel : Nat) (a_a0 b_a1 : AVal) (h : Heap) : bodyR Try.prog call fuel Try.f43 [a_a0, b_a1] h = S_precentorref1_SameValue Try.prog call fuel a_a0 b_a1 h := by kernel_rfl
theorem R_precentorref1_SameValue {X : XTab} (a_a0 b_a1 : AVal) {h : Heap} {Q : AVal → Heap → Prop} (hx : X F_precentorref1_SameValue [a_a0, b_a1] = none) (q : Tells (fun m => S_precentorref1_SameValue Try.prog (acallX Try.prog X m) m a_a0 b_a1 h) Q) :
    Tells (fun m => acallX Try.prog X m F_precentorref1_SameValue [a_a0, b_a1] h) Q :=
  Tells.later (q.le fun m => (E_precentorref1_SameValue (acallX Try.prog X m) m a_a0 b_a1 h) ▸ acallX_le Try.func43 hx m h)

/-! ### precentor/precentorref1.sameValues -/
def J_precentorref1_sameValues_1 (P : Program) (call : FuncId → List AVal → Heap → Res AVal) (fuel : Nat) (k : Kn (AVal)) (t : T) (h : Heap) : Res (AVal) :=
arb (.val (.bool true) h) call fun v_2 h3 =>
k .ret (upd t 4 v_2) h3

def J_precentorref1_sameValues_4 (P : Program) (call : FuncId → List AVal → Heap → Res AVal) (fuel : Nat) (k : Kn (Ex × T)) (t : T) (h : Heap) : Res (Ex × T) :=
arb (.val (t 5) h) call fun v_8 h9 =>
arb (.of (aBin P .add 3 (.tmp 15) (.const (.int .i64 1)) v_8 (.int .i64 1)) h9) call fun v_10 h11 =>
arb (.val v_10 h11) call fun i_12 h13 =>
k .normal (upd (upd (upd t 15 v_8) 16 v_10) 5 i_12) h13

def J_precentorref1_sameValues_3 (P : Program) (call : FuncId → List AVal → Heap → Res AVal) (fuel : Nat) (k : Kn (Ex × T)) (t : T) (h : Heap) : Res (Ex × T) :=
lt (sqK (J_precentorref1_sameValues_4 P call fuel k) k) fun k14 =>
lt (blkK 1 k14) fun k15 =>
obv (.val (t 0) h) fun v_16 =>
obv (.val (t 5) h) fun v_18 =>
obv (.of (ixsR 5 v_16 v_18) h) fun v_20 =>
obv (.of (ldn 5 h v_20) h) fun v_22 => ifb true <|
obv (.val (t 1) h) fun v_24 =>
obv (.val (t 5) h) fun v_26 =>
obv (.of (ixsR 5 v_24 v_26) h) fun v_28 =>
obv (.of (ldn 5 h v_28) h) fun v_30 => ifb true <|
arbE (.call F_precentorref1_SameValue [v_22, v_30] h) call fun v_32 h33 => lt h33 fun g33 => ifb (true && true) <|
obv (.of (aUn P .not v_32) g33) fun v_34 =>
cb v_34 (
arb (.val (.bool false) g33) call fun v_36 h37 =>
k15 .ret (upd (upd (upd (upd (upd (upd (upd (upd (upd (upd (upd t 17 v_16) 18 v_18) 19 v_20) 20 v_22) 21 v_24) 22 v_26) 23 v_28) 24 v_30) 25 v_32) 26 v_34) 4 v_36) h37) (
k15 .normal (upd (upd (upd (upd (upd (upd (upd (upd (upd (upd t 17 v_16) 18 v_18) 19 v_20) 20 v_22) 21 v_24) 22 v_26) 23 v_28) 24 v_30) 25 v_32) 26 v_34) g33)

def L_precentorref1_sameValues_2 (P : Program) (call : FuncId → List AVal → Heap → Res AVal) (fuel : Nat) (t : T) (h : Heap) : Res (Ex × T) :=
lt okK fun k =>
lt (sqK (J_precentorref1_sameValues_3 P call fuel k) k) fun k38 =>
arb (.val (t 5) h) call fun v_39 h40 =>
arb (.val (t 0) h40) call fun v_41 h42 =>
arb (.of (lenL v_41) h42) call fun v_43 h44 =>
arb (.of (aBin P .lss 3 (.tmp 11) (.tmp 13) v_39 v_43) h44) call fun v_45 h46 =>
cb v_45 (
k38 .normal (upd (upd (upd (upd t 11 v_39) 12 v_41) 13 v_43) 14 v_45) h46) (
k38 (.exit 0) (upd (upd (upd (upd t 11 v_39) 12 v_41) 13 v_43) 14 v_45) h46)

def J_precentorref1_sameValues_0 (P : Program) (call : FuncId → List AVal → Heap → Res AVal) (fuel : Nat) (k : Kn (AVal)) (t : T) (h : Heap) : Res (AVal) :=
lt (sqK (J_precentorref1_sameValues_1 P call fuel k) k) fun k4 =>
arb (.val (.int .i64 0) h) call fun i_5 h6 =>
lt (blkK 0 k4) fun k7 =>
(loopN (L_precentorref1_sameValues_2 P call fuel) fuel (upd t 5 i_5) h6).bind (lpK k7)

def S_precentorref1_sameValues (P : Program) (call : FuncId → List AVal → Heap → Res AVal) (fuel : Nat) (a_a0 b_a1 : AVal) (h : Heap) : Res AVal :=
lt (retK P [.tmp 4]) fun k =>
arb (.val (.bool false) h) call fun v_0 h1 =>
lt (sqK (J_precentorref1_sameValues_0 P call fuel k) k) fun k47 =>
arb (.val a_a0 h1) call fun v_48 h49 =>
arb (.of (lenL v_48) h49) call fun v_50 h51 =>
arb (.val b_a1 h51) call fun v_52 h53 =>
arb (.of (lenL v_52) h53) call fun v_54 h55 =>
arb (.of (aBin P .neq 3 (.tmp 7) (.tmp 9) v_50 v_54) h55) call fun v_56 h57 =>
cb v_56 (
arb (.val (.bool false) h57) call fun v_58 h59 =>
k47 .ret (upd (upd (upd (upd (upd (upd (upd (enterT [a_a0, b_a1]) 4 v_0) 6 v_48) 7 v_50) 8 v_52) 9 v_54) 10 v_56) 4 v_58) h59) (
k47 .normal (upd (upd (upd (upd (upd (upd (enterT [a_a0, b_a1]) 4 v_0) 6 v_48) 7 v_50) 8 v_52) 9 v_54) 10 v_56) h57)
theorem E_precentorref1_sameValues (call : FuncId → List AVal → Heap → Res AVal) (fuel : Nat) (a_a0 b_a1 : AVal) (h : Heap) : bodyR Try.prog call fuel Try.f44 [a_a0, b_a1] h = S_precentorref1_sameValues Try.prog call fuel a_a0 b_a1 h := by kernel_rfl
theorem R_precentorref1_sameValues {X : XTab} (a_a0 b_a1 : AVal) {h : Heap} {Q : AVal → Heap → Prop} (hx : X F_precentorref1_sameValues [a_a0, b_a1] = none) (q : Tells (fun m => S_precentorref1_sameValues Try.prog (acallX Try.prog X m) m a_a0 b_a1 h) Q) :
    Tells (fun m => acallX Try.prog X m F_precentorref1_sameValues [a_a0, b_a1] h) Q :=
  Tells.later (q.le fun m => (E_precentorref1_sameValues (acallX Try.prog X m) m a_a0 b_a1 h) ▸ acallX_le Try.func44 hx m h)

/-! ### precentor/precentorref1.Bits -/
def J_precentorref1_Bits_1 (P : Program) (call : FuncId → List AVal → Heap → Res AVal) (fuel : Nat) (k : Kn (AVal)) (t : T) (h : Heap) : Res (AVal) :=
arb (.val (t 0) h) call fun v_2 h3 =>
arb (.of (aNat P F_math_Float64bits [v_2]) h3) call fun v_4 h5 =>
arb (.val v_4 h5) call fun v_6 h7 =>
k .ret (upd (upd (upd t 8 v_2) 9 v_4) 2 v_6) h7

def J_precentorref1_Bits_0 (P : Program) (call : FuncId → List AVal → Heap → Res AVal) (fuel : Nat) (k : Kn (AVal)) (t : T) (h : Heap) : Res (AVal) :=
lt (sqK (J_precentorref1_Bits_1 P call fuel k) k) fun k8 =>
arb (.val (t 0) h) call fun v_9 h10 =>
arb (.of (aBin P .eql 66 (.tmp 6) (.const (.float .f64 0)) v_9 (.flt .f64 0)) h10) call fun v_11 h12 =>
cb v_11 (
arb (.val (.int .u64 0) h12) call fun v_13 h14 =>
k8 .ret (upd (upd (upd t 6 v_9) 7 v_11) 2 v_13) h14) (
k8 .normal (upd (upd t 6 v_9) 7 v_11) h12)

def S_precentorref1_Bits (P : Program) (call : FuncId → List AVal → Heap → Res AVal) (fuel : Nat) (x_a0 : AVal) (h : Heap) : Res AVal :=
lt (retK P [.tmp 2]) fun k =>
arb (.val (.int .u64 0) h) call fun v_0 h1 =>
lt (sqK (J_precentorref1_Bits_0 P call fuel k) k) fun k15 =>
arb (.val x_a0 h1) call fun v_16 h17 =>
arb (.val x_a0 h17) call fun v_18 h19 =>
arb (.of (aBin P .neq 66 (.tmp 3) (.tmp 4) v_16 v_18) h19) call fun v_20 h21 =>
cb v_20 (
arb (.val (.int .u64 9221120237041090560) h21) call fun v_22 h23 =>
k15 .ret (upd (upd (upd (upd (upd (enterT [x_a0]) 2 v_0) 3 v_16) 4 v_18) 5 v_20) 2 v_22) h23) (
k15 .normal (upd (upd (upd (upd (enterT [x_a0]) 2 v_0) 3 v_16) 4 v_18) 5 v_20) h21)
theorem E_precentorref1_Bits (call : FuncId → List AVal → Heap → Res AVal) (fuel : Nat) (x_a0 : AVal) (h : Heap) : bodyR Try.prog call fuel Try.f45 [x_a0] h = S_precentorref1_Bits Try.prog call fuel x_a0 h := by kernel_rfl
theorem R_precentorref1_Bits {X : XTab} (x_a0 : AVal) {h : Heap} {Q : AVal → Heap → Prop} (hx : X F_precentorref1_Bits [x_a0] = none) (q : Tells (fun m => S_precentorref1_Bits Try.prog (acallX Try.prog X m) m x_a0 h) Q) :
    Tells (fun m => acallX Try.prog X m F_precentorref1_Bits [x_a0] h) Q :=
  Tells.later (q.le fun m => (E_precentorref1_Bits (acallX Try.prog X m) m x_a0 h) ▸ acallX_le Try.func45 hx m h)


end Go.Proofs.Ytebkohdmoaginaa
