/-
  Functions of precentorhand in the form of YtjoniicebjpdaaaABS (printed by a program of ours, gen.lean).
-/
import Derived.Test.YtjoniicebjpdaaaSIds
set_option linter.unusedVariables false
namespace Go.Proofs.Ytjoniicebjpdaaa
open Go.Ab
/-! ### (*precentor/precentorhand.Feed).Next -/
def J_precentorhand_Feed_Next_0 (P : Program) (call : FuncId → List AVal → Heap → Res AVal) (fuel : Nat) (k : Kn (AVal)) (t : T) (h : Heap) : Res (AVal) :=
obv (.val (t 0) h) fun v_2 =>
obv (nckR v_2 h) fun v_3 =>
obv (.of (fadR 0 v_3) h) fun v_4 =>
obv (.of (ld1 h v_4) h) fun v_5 =>
obv (.val (t 0) h) fun v_6 =>
obv (nckR v_6 h) fun v_7 =>
obv (.of (fadR 1 v_7) h) fun v_8 =>
obv (.of (ld1 h v_8) h) fun v_9 =>
obv (.val (t 0) h) fun v_10 =>
obv (nckR v_10 h) fun v_11 =>
obv (.of (fadR 0 v_11) h) fun v_12 =>
obv (.of (ld1 h v_12) h) fun v_13 =>
obv (.of (lenL v_13) h) fun v_14 =>
obv (.of (aBin P .rem 3 (.tmp 19) (.tmp 24) v_9 v_14) h) fun v_15 =>
obv (.of (ixsR 1 v_5 v_15) h) fun v_16 =>
obv (.of (ld1 h v_16) h) fun v_17 =>
obv (.val (t 0) h) fun v_18 =>
obv (nckR v_18 h) fun v_19 =>
obv (.of (fadR 1 v_19) h) fun v_20 =>
obv (.of (ld1 h v_20) h) fun v_21 =>
obv (.val (t 0) h) fun v_22 =>
obv (nckR v_22 h) fun v_23 =>
obv (.of (fadR 0 v_23) h) fun v_24 =>
obv (.of (ld1 h v_24) h) fun v_25 =>
obv (.of (lenL v_25) h) fun v_26 =>
obv (.of (aBin P .quo 3 (.tmp 31) (.tmp 36) v_21 v_26) h) fun v_27 =>
obv (.of (aBin P .add 3 (.const (.int .i64 1)) (.tmp 37) (.int .i64 1) v_27) h) fun v_28 =>
obv (.of (aBin P .quo 3 (.tmp 27) (.tmp 38) v_17 v_28) h) fun v_29 =>
obv (.val (t 0) h) fun v_30 =>
obv (nckR v_30 h) fun v_31 =>
obv (.of (fadR 1 v_31) h) fun v_32 =>
obv (.of (ld1 h v_32) h) fun v_33 =>
obv (.val (t 0) h) fun v_34 =>
obv (nckR v_34 h) fun v_35 =>
obv (.of (fadR 0 v_35) h) fun v_36 =>
obv (.of (ld1 h v_36) h) fun v_37 =>
obv (.of (lenL v_37) h) fun v_38 =>
obv (.of (aBin P .quo 3 (.tmp 43) (.tmp 48) v_33 v_38) h) fun v_39 =>
obv (.of (aBin P .add 3 (.tmp 39) (.tmp 49) v_29 v_39) h) fun v_40 =>
obv (.val v_40 h) fun k_41 =>
arb (.val (t 0) h) call fun v_42 h43 =>
arb (nckR v_42 h43) call fun v_44 h45 =>
arb (.of (fadR 1 v_44) h45) call fun v_46 h47 =>
arb (.of (ld1 h47 v_46) h47) call fun v_48 h49 =>
arb (.of (aBin P .add 3 (.tmp 54) (.const (.int .i64 1)) v_48 (.int .i64 1)) h49) call fun v_50 h51 =>
arb (nckR v_42 h51) call fun v_52 h53 =>
arb (.of (fadR 1 v_52) h53) call fun v_54 h55 =>
arb (stR 1 h55 v_54 v_50) call fun v_56 h57 =>
arb (.val k_41 h57) call fun v_58 h59 =>
arb (.val (t 1) h59) call fun v_60 h61 =>
arb (.call F_precentorhand_Pick [v_58, v_60] h61) call fun v_62 h63 =>
arb (.val v_62 h63) call fun v_64 h65 =>
k .ret (upd (upd (upd (upd (upd (upd (upd (upd (upd (upd (upd (upd (upd (upd (upd (upd (upd (upd (upd (upd (upd (upd (upd (upd (upd (upd (upd (upd (upd (upd (upd (upd (upd (upd (upd (upd (upd (upd (upd (upd (upd (upd (upd (upd (upd (upd (upd (upd (upd (upd (upd t 12 v_2) 13 v_3) 14 v_4) 15 v_5) 16 v_6) 17 v_7) 18 v_8) 19 v_9) 20 v_10) 21 v_11) 22 v_12) 23 v_13) 24 v_14) 25 v_15) 26 v_16) 27 v_17) 28 v_18) 29 v_19) 30 v_20) 31 v_21) 32 v_22) 33 v_23) 34 v_24) 35 v_25) 36 v_26) 37 v_27) 38 v_28) 39 v_29) 40 v_30) 41 v_31) 42 v_32) 43 v_33) 44 v_34) 45 v_35) 46 v_36) 47 v_37) 48 v_38) 49 v_39) 50 v_40) 5 k_41) 51 v_42) 52 v_44) 53 v_46) 54 v_48) 55 v_50) 56 v_52) 57 v_54) 58 v_58) 59 v_60) 60 v_62) 4 v_64) h65

def S_precentorhand_Feed_Next (P : Program) (call : FuncId → List AVal → Heap → Res AVal) (fuel : Nat) (f_a0 n_a1 : AVal) (h : Heap) : Res AVal :=
lt (retK P [.tmp 4]) fun k =>
arb (.val (.int .i64 0) h) call fun v_0 h1 =>
lt (sqK (J_precentorhand_Feed_Next_0 P call fuel k) k) fun k66 =>
arb (.val f_a0 h1) call fun v_67 h68 =>
arb (nckR v_67 h68) call fun v_69 h70 =>
arb (.of (fadR 0 v_69) h70) call fun v_71 h72 =>
arb (.of (ld1 h72 v_71) h72) call fun v_73 h74 =>
arb (.of (lenL v_73) h74) call fun v_75 h76 =>
arb (.of (aBin P .eql 3 (.tmp 10) (.const (.int .i64 0)) v_75 (.int .i64 0)) h76) call fun v_77 h78 =>
cb v_77 (
arb (.val (.int .i64 0) h78) call fun v_79 h80 =>
k66 .ret (upd (upd (upd (upd (upd (upd (upd (upd (enterT [f_a0, n_a1]) 4 v_0) 6 v_67) 7 v_69) 8 v_71) 9 v_73) 10 v_75) 11 v_77) 4 v_79) h80) (
k66 .normal (upd (upd (upd (upd (upd (upd (upd (enterT [f_a0, n_a1]) 4 v_0) 6 v_67) 7 v_69) 8 v_71) 9 v_73) 10 v_75) 11 v_77) h78)
theorem E_precentorhand_Feed_Next (call : FuncId → List AVal → Heap → Res AVal) (fuel : Nat) (f_a0 n_a1 : AVal) (h : Heap) : bodyR Try.prog call fuel Try.f17 [f_a0, n_a1] h = S_precentorhand_Feed_Next Try.prog call fuel f_a0 n_a1 h := by kernel_rfl
theorem R_precentorhand_Feed_Next {X : XTab} (f_a0 n_a1 : AVal) {h : Heap} {Q : AVal → Heap → Prop} (hx : X F_precentorhand_Feed_Next [f_a0, n_a1] = none) (q : Tells (fun m => S_precentorhand_Feed_Next Try.prog (acallX Try.prog X m) m f_a0 n_a1 h) Q) :
    Tells (fun m => acallX Try.prog X m F_precentorhand_Feed_Next [f_a0, n_a1] h) Q :=
  Tells.later (q.le fun m => (E_precentorhand_Feed_Next (acallX Try.prog X m) m f_a0 n_a1 h) ▸ acallX_le Try.func17 hx m h)

/-! ### (*precentor/precentorhand.Feed).Value -/
def J_precentorhand_Feed_Value_0 (P : Program) (call : FuncId → List AVal → Heap → Res AVal) (fuel : Nat) (k : Kn (AVal)) (t : T) (h : Heap) : Res (AVal) :=
arb (.val (t 0) h) call fun v_2 h3 =>
arb (.call F_precentorhand_Feed_Next [v_2, (.int .i64 5)] h3) call fun v_4 h5 =>
arb (.of (bldR [(.int .i64 0), (.int .i64 0), (.flt .f64 0), (.str (bs [])), (.bool false)] [(0, 1, (.int .i64 1)), (1, 1, v_4)]) h5) call fun v_6 h7 =>
arb (stR 5 h7 (t 2) v_6) call fun v_8 h9 =>
k .ret (upd (upd (upd t 35 v_2) 36 v_4) 37 v_6) h9

def J_precentorhand_Feed_Value_1 (P : Program) (call : FuncId → List AVal → Heap → Res AVal) (fuel : Nat) (k : Kn (AVal)) (t : T) (h : Heap) : Res (AVal) :=
cb (t 7) (
arb (.val (t 0) h) call fun v_16 h17 =>
arb (.call F_precentorhand_Feed_Float [v_16] h17) call fun v_18 h19 =>
arb (.of (bldR [(.int .i64 0), (.int .i64 0), (.flt .f64 0), (.str (bs [])), (.bool false)] [(0, 1, (.int .i64 2)), (2, 1, v_18)]) h19) call fun v_20 h21 =>
arb (stR 5 h21 (t 2) v_20) call fun v_22 h23 =>
k .ret (upd (upd (upd t 10 v_16) 11 v_18) 12 v_20) h23) (
arb (.of (aBin P .eql 3 (.tmp 6) (.const (.int .i64 2)) (t 6) (.int .i64 2)) h) call fun v_24 h25 =>
arb (.val v_24 h25) call fun v_26 h27 =>
cb v_26 (
arb (.of (bldR [(.str (bs [])), (.str (bs [])), (.str (bs [])), (.str (bs [])), (.str (bs [])), (.str (bs []))] [(0, 1, (.str (bs []))), (1, 1, (.str (bs [97]))), (2, 1, (.str (bs [97, 98]))), (3, 1, (.str (bs [98]))), (4, 1, (.str (bs [98, 97]))), (5, 1, (.str (bs [116, 119, 101, 108, 118, 101, 32, 98, 121, 116, 101, 115])))]) h27) call fun v_28 h29 =>
arb (newR [(.str (bs [])), (.str (bs [])), (.str (bs [])), (.str (bs [])), (.str (bs [])), (.str (bs []))] h29) call fun l_30 h31 =>
arb (stR 6 h31 l_30 v_28) call fun v_32 h33 =>
arb (.val (t 0) h33) call fun v_34 h35 =>
arb (.call F_precentorhand_Feed_Next [v_34, (.int .i64 6)] h35) call fun v_36 h37 =>
arb (.of (ixpR 6 1 l_30 v_36) h37) call fun v_38 h39 =>
arb (.of (ld1 h39 v_38) h39) call fun v_40 h41 =>
arb (.of (bldR [(.int .i64 0), (.int .i64 0), (.flt .f64 0), (.str (bs [])), (.bool false)] [(0, 1, (.int .i64 3)), (3, 1, v_40)]) h41) call fun v_42 h43 =>
arb (stR 5 h43 (t 2) v_42) call fun v_44 h45 =>
k .ret (upd (upd (upd (upd (upd (upd (upd (upd (upd t 14 v_24) 13 v_26) 15 v_28) 3 l_30) 16 v_34) 17 v_36) 18 v_38) 19 v_40) 20 v_42) h45) (
arb (.of (aBin P .eql 3 (.tmp 6) (.const (.int .i64 3)) (t 6) (.int .i64 3)) h27) call fun v_46 h47 =>
arb (.val v_46 h47) call fun v_48 h49 =>
cb v_48 (
arb (.val (t 0) h49) call fun v_50 h51 =>
arb (.call F_precentorhand_Feed_Next [v_50, (.int .i64 2)] h51) call fun v_52 h53 =>
arb (.of (aBin P .eql 3 (.tmp 24) (.const (.int .i64 1)) v_52 (.int .i64 1)) h53) call fun v_54 h55 =>
arb (.of (bldR [(.int .i64 0), (.int .i64 0), (.flt .f64 0), (.str (bs [])), (.bool false)] [(0, 1, (.int .i64 4)), (4, 1, v_54)]) h55) call fun v_56 h57 =>
arb (stR 5 h57 (t 2) v_56) call fun v_58 h59 =>
k .ret (upd (upd (upd (upd (upd (upd (upd (upd t 14 v_24) 13 v_26) 22 v_46) 21 v_48) 23 v_50) 24 v_52) 25 v_54) 26 v_56) h59) (
arb (.of (aBin P .eql 3 (.tmp 6) (.const (.int .i64 4)) (t 6) (.int .i64 4)) h49) call fun v_60 h61 =>
arb (.val v_60 h61) call fun v_62 h63 =>
cb v_62 (
arb (.of (bldR [(.int .i64 0), (.int .i64 0), (.int .i64 0), (.int .i64 0), (.int .i64 0), (.int .i64 0)] [(0, 1, (.int .i64 (-9223372036854775808))), (1, 1, (.int .i64 9223372036854775807)), (2, 1, (.int .i64 9007199254740992)), (3, 1, (.int .i64 9007199254740993)), (4, 1, (.int .i64 (-1))), (5, 1, (.int .i64 4611686018427387904))]) h63) call fun v_64 h65 =>
arb (newR [(.int .i64 0), (.int .i64 0), (.int .i64 0), (.int .i64 0), (.int .i64 0), (.int .i64 0)] h65) call fun l_66 h67 =>
arb (stR 6 h67 l_66 v_64) call fun v_68 h69 =>
arb (.val (t 0) h69) call fun v_70 h71 =>
arb (.call F_precentorhand_Feed_Next [v_70, (.int .i64 6)] h71) call fun v_72 h73 =>
arb (.of (ixpR 6 1 l_66 v_72) h73) call fun v_74 h75 =>
arb (.of (ld1 h75 v_74) h75) call fun v_76 h77 =>
arb (.of (bldR [(.int .i64 0), (.int .i64 0), (.flt .f64 0), (.str (bs [])), (.bool false)] [(0, 1, (.int .i64 1)), (1, 1, v_76)]) h77) call fun v_78 h79 =>
arb (stR 5 h79 (t 2) v_78) call fun v_80 h81 =>
k .ret (upd (upd (upd (upd (upd (upd (upd (upd (upd (upd (upd (upd (upd t 14 v_24) 13 v_26) 22 v_46) 21 v_48) 28 v_60) 27 v_62) 29 v_64) 4 l_66) 30 v_70) 31 v_72) 32 v_74) 33 v_76) 34 v_78) h81) (
k .normal (upd (upd (upd (upd (upd (upd t 14 v_24) 13 v_26) 22 v_46) 21 v_48) 28 v_60) 27 v_62) h63))))

theorem C_precentorhand_Feed_Value_0 (h : Heap) (a : AVal) : aLoad Try.prog h 24 a = ldn 5 h a := by kernel_rfl
def S_precentorhand_Feed_Value (P : Program) (call : FuncId → List AVal → Heap → Res AVal) (fuel : Nat) (f_a0 : AVal) (h : Heap) : Res AVal :=
lt (retK P [.cell 2 24]) fun k =>
arb (newR [(.int .i64 0), (.int .i64 0), (.flt .f64 0), (.str (bs [])), (.bool false)] h) call fun v_0 h1 =>
lt (sqK (J_precentorhand_Feed_Value_0 P call fuel k) k) fun k10 =>
arb (.val f_a0 h1) call fun v_11 h12 =>
arb (.call F_precentorhand_Feed_Next [v_11, (.int .i64 8)] h12) call fun v_13 h14 =>
lt (blkK 0 k10) fun k15 =>
lt (sqK (J_precentorhand_Feed_Value_1 P call fuel k15) k15) fun k82 =>
arb (.of (aBin P .eql 3 (.tmp 6) (.const (.int .i64 0)) v_13 (.int .i64 0)) h14) call fun v_83 h84 =>
arb (.val v_83 h84) call fun v_85 h86 =>
cb v_85 (
k82 .normal (upd (upd (upd (upd (upd (enterT [f_a0]) 2 v_0) 5 v_11) 6 v_13) 8 v_83) 7 v_85) h86) (
arb (.of (aBin P .eql 3 (.tmp 6) (.const (.int .i64 1)) v_13 (.int .i64 1)) h86) call fun v_87 h88 =>
arb (.val v_87 h88) call fun v_89 h90 =>
k82 .normal (upd (upd (upd (upd (upd (upd (upd (enterT [f_a0]) 2 v_0) 5 v_11) 6 v_13) 8 v_83) 7 v_85) 9 v_87) 7 v_89) h90)
theorem E_precentorhand_Feed_Value (call : FuncId → List AVal → Heap → Res AVal) (fuel : Nat) (f_a0 : AVal) (h : Heap) : bodyR Try.prog call fuel Try.f18 [f_a0] h = S_precentorhand_Feed_Value Try.prog call fuel f_a0 h := by kernel_rfl
theorem R_precentorhand_Feed_Value {X : XTab} (f_a0 : AVal) {h : Heap} {Q : AVal → Heap → Prop} (hx : X F_precentorhand_Feed_Value [f_a0] = none) (q : Tells (fun m => S_precentorhand_Feed_Value Try.prog (acallX Try.prog X m) m f_a0 h) Q) :
    Tells (fun m => acallX Try.prog X m F_precentorhand_Feed_Value [f_a0] h) Q :=
  Tells.later (q.le fun m => (E_precentorhand_Feed_Value (acallX Try.prog X m) m f_a0 h) ▸ acallX_le Try.func18 hx m h)

/-! ### precentor/precentorhand.Pick -/
def J_precentorhand_Pick_1 (P : Program) (call : FuncId → List AVal → Heap → Res AVal) (fuel : Nat) (k : Kn (AVal)) (t : T) (h : Heap) : Res (AVal) :=
arb (.val (t 5) h) call fun v_10 h11 =>
arb (.val v_10 h11) call fun v_12 h13 =>
k .ret (upd (upd t 16 v_10) 4 v_12) h13

def J_precentorhand_Pick_0 (P : Program) (call : FuncId → List AVal → Heap → Res AVal) (fuel : Nat) (k : Kn (AVal)) (t : T) (h : Heap) : Res (AVal) :=
arb (.val (t 0) h) call fun v_2 h3 =>
arb (.val (t 1) h3) call fun v_4 h5 =>
arb (.of (aBin P .rem 3 (.tmp 8) (.tmp 9) v_2 v_4) h5) call fun v_6 h7 =>
arb (.val v_6 h7) call fun k_8 h9 =>
lt (sqK (J_precentorhand_Pick_1 P call fuel k) k) fun k14 =>
arb (.val k_8 h9) call fun v_15 h16 =>
arb (.of (aBin P .lss 3 (.tmp 11) (.const (.int .i64 0)) v_15 (.int .i64 0)) h16) call fun v_17 h18 =>
cb v_17 (
arb (.val k_8 h18) call fun v_19 h20 =>
arb (.val (t 1) h20) call fun v_21 h22 =>
arb (.of (aBin P .add 3 (.tmp 13) (.tmp 14) v_19 v_21) h22) call fun v_23 h24 =>
arb (.val v_23 h24) call fun k_25 h26 =>
k14 .normal (upd (upd (upd (upd (upd (upd (upd (upd (upd (upd t 8 v_2) 9 v_4) 10 v_6) 5 k_8) 11 v_15) 12 v_17) 13 v_19) 14 v_21) 15 v_23) 5 k_25) h26) (
k14 .normal (upd (upd (upd (upd (upd (upd t 8 v_2) 9 v_4) 10 v_6) 5 k_8) 11 v_15) 12 v_17) h18)

def S_precentorhand_Pick (P : Program) (call : FuncId → List AVal → Heap → Res AVal) (fuel : Nat) (n_a0 m_a1 : AVal) (h : Heap) : Res AVal :=
lt (retK P [.tmp 4]) fun k =>
arb (.val (.int .i64 0) h) call fun v_0 h1 =>
lt (sqK (J_precentorhand_Pick_0 P call fuel k) k) fun k27 =>
arb (.val m_a1 h1) call fun v_28 h29 =>
arb (.of (aBin P .lss 3 (.tmp 6) (.const (.int .i64 1)) v_28 (.int .i64 1)) h29) call fun v_30 h31 =>
cb v_30 (
arb (.val (.int .i64 0) h31) call fun v_32 h33 =>
k27 .ret (upd (upd (upd (upd (enterT [n_a0, m_a1]) 4 v_0) 6 v_28) 7 v_30) 4 v_32) h33) (
k27 .normal (upd (upd (upd (enterT [n_a0, m_a1]) 4 v_0) 6 v_28) 7 v_30) h31)
theorem E_precentorhand_Pick (call : FuncId → List AVal → Heap → Res AVal) (fuel : Nat) (n_a0 m_a1 : AVal) (h : Heap) : bodyR Try.prog call fuel Try.f30 [n_a0, m_a1] h = S_precentorhand_Pick Try.prog call fuel n_a0 m_a1 h := by kernel_rfl
theorem R_precentorhand_Pick {X : XTab} (n_a0 m_a1 : AVal) {h : Heap} {Q : AVal → Heap → Prop} (hx : X F_precentorhand_Pick [n_a0, m_a1] = none) (q : Tells (fun m => S_precentorhand_Pick Try.prog (acallX Try.prog X m) m n_a0 m_a1 h) Q) :
    Tells (fun m => acallX Try.prog X m F_precentorhand_Pick [n_a0, m_a1] h) Q :=
  Tells.later (q.le fun m => (E_precentorhand_Pick (acallX Try.prog X m) m n_a0 m_a1 h) ▸ acallX_le Try.func30 hx m h)

/-! ### (*precentor/precentorhand.Feed).Float -/

def S_precentorhand_Feed_Float (P : Program) (call : FuncId → List AVal → Heap → Res AVal) (fuel : Nat) (f_a0 : AVal) (h : Heap) : Res AVal :=
lt (retK P [.tmp 2]) fun k =>
arb (.val (.flt .f64 0) h) call fun v_0 h1 =>
arb (.call F_math_Copysign [(.flt .f64 0), (.flt .f64 13830554455654793216)] h1) call fun v_2 h3 =>
arb (.call F_math_NaN [] h3) call fun v_4 h5 =>
arb (.call F_math_Inf [(.int .i64 1)] h5) call fun v_6 h7 =>
arb (.call F_math_Inf [(.int .i64 (-1))] h7) call fun v_8 h9 =>
arb (.of (bldR [(.flt .f64 0), (.flt .f64 0), (.flt .f64 0), (.flt .f64 0), (.flt .f64 0), (.flt .f64 0), (.flt .f64 0), (.flt .f64 0), (.flt .f64 0), (.flt .f64 0), (.flt .f64 0), (.flt .f64 0), (.flt .f64 0), (.flt .f64 0)] [(0, 1, (.flt .f64 0)), (1, 1, v_2), (2, 1, (.flt .f64 4607182418800017408)), (3, 1, (.flt .f64 4609434218613702656)), (4, 1, (.flt .f64 4611686018427387904)), (5, 1, (.flt .f64 4613937818241073152)), (6, 1, (.flt .f64 13830554455654793216)), (7, 1, (.flt .f64 4591870180066957722)), (8, 1, v_4), (9, 1, v_6), (10, 1, v_8), (11, 1, (.flt .f64 4845873199050653696)), (12, 1, (.flt .f64 4890909195324358656)), (13, 1, (.flt .f64 1))]) h9) call fun v_10 h11 =>
arb (newR [(.flt .f64 0), (.flt .f64 0), (.flt .f64 0), (.flt .f64 0), (.flt .f64 0), (.flt .f64 0), (.flt .f64 0), (.flt .f64 0), (.flt .f64 0), (.flt .f64 0), (.flt .f64 0), (.flt .f64 0), (.flt .f64 0), (.flt .f64 0)] h11) call fun l_12 h13 =>
arb (stR 14 h13 l_12 v_10) call fun v_14 h15 =>
arb (.val f_a0 h15) call fun v_16 h17 =>
arb (.call F_precentorhand_Feed_Next [v_16, (.int .i64 14)] h17) call fun v_18 h19 =>
arb (.of (ixpR 14 1 l_12 v_18) h19) call fun v_20 h21 =>
arb (.of (ld1 h21 v_20) h21) call fun v_22 h23 =>
arb (.val v_22 h23) call fun v_24 h25 =>
k .ret (upd (upd (upd (upd (upd (upd (upd (upd (upd (upd (upd (upd (enterT [f_a0]) 2 v_0) 4 v_2) 5 v_4) 6 v_6) 7 v_8) 8 v_10) 3 l_12) 9 v_16) 10 v_18) 11 v_20) 12 v_22) 2 v_24) h25
theorem E_precentorhand_Feed_Float (call : FuncId → List AVal → Heap → Res AVal) (fuel : Nat) (f_a0 : AVal) (h : Heap) : bodyR Try.prog call fuel Try.f31 [f_a0] h = S_precentorhand_Feed_Float Try.prog call fuel f_a0 h := by kernel_rfl
theorem R_precentorhand_Feed_Float {X : XTab} (f_a0 : AVal) {h : Heap} {Q : AVal → Heap → Prop} (hx : X F_precentorhand_Feed_Float [f_a0] = none) (q : Tells (fun m => S_precentorhand_Feed_Float Try.prog (acallX Try.prog X m) m f_a0 h) Q) :
    Tells (fun m => acallX Try.prog X m F_precentorhand_Feed_Float [f_a0] h) Q :=
  Tells.later (q.le fun m => (E_precentorhand_Feed_Float (acallX Try.prog X m) m f_a0 h) ▸ acallX_le Try.func31 hx m h)


end Go.Proofs.Ytjoniicebjpdaaa
