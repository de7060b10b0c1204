/-
  Functions of precentorref9 in the form of YtbpbdigehfkjjaaABS (printed by a program of ours, gen.lean).
-/
import Derived.Test.YtbpbdigehfkjjaaSIds
set_option linter.unusedVariables false
namespace Go.Proofs.Ytbpbdigehfkjjaa
open Go.Ab
/-! ### (precentor/precentorref9.Clock).Next -/
def J_precentorref9_Clock_Next_0 (P : Program) (call : FuncId → List AVal → Heap → Res AVal) (fuel : Nat) (k : Kn (AVal)) (t : T) (h : Heap) : Res (AVal) :=
arb (.val (.int .i64 0) h) call fun v_4 h5 =>
k .ret (upd t 4 v_4) h5

def J_precentorref9_Clock_Next_3 (P : Program) (call : FuncId → List AVal → Heap → Res AVal) (fuel : Nat) (k : Kn (Ex × T)) (t : T) (h : Heap) : Res (Ex × T) :=
arb (.val (t 5) h) call fun v_10 h11 =>
arb (.of (aBin P .add 3 (.tmp 11) (.const (.int .i64 1)) v_10 (.int .i64 1)) h11) call fun v_12 h13 =>
arb (.val v_12 h13) call fun i_14 h15 =>
k .normal (upd (upd (upd t 11 v_10) 12 v_12) 5 i_14) h15

def J_precentorref9_Clock_Next_2 (P : Program) (call : FuncId → List AVal → Heap → Res AVal) (fuel : Nat) (k : Kn (Ex × T)) (t : T) (h : Heap) : Res (Ex × T) :=
lt (sqK (J_precentorref9_Clock_Next_3 P call fuel k) k) fun k16 =>
lt (blkK 1 k16) fun k17 =>
arb (.of (fadR 0 (t 2)) h) call fun v_18 h19 =>
arb (.of (ld1 h19 v_18) h19) call fun v_20 h21 =>
arb (.val (t 5) h21) call fun v_22 h23 =>
arb (.of (ixsR 1 v_20 v_22) h23) call fun v_24 h25 =>
arb (.of (ld1 h25 v_24) h25) call fun v_26 h27 =>
arb (.val (t 1) h27) call fun v_28 h29 =>
arb (.of (aBin P .eql 3 (.tmp 17) (.tmp 18) v_26 v_28) h29) call fun v_30 h31 =>
cb v_30 (
arb (.of (fadR 1 (t 2)) h31) call fun v_32 h33 =>
arb (.of (ld1 h33 v_32) h33) call fun v_34 h35 =>
arb (.val (t 5) h35) call fun v_36 h37 =>
arb (.of (ixsR 1 v_34 v_36) h37) call fun v_38 h39 =>
arb (.of (ld1 h39 v_38) h39) call fun v_40 h41 =>
arb (.val v_40 h41) call fun v_42 h43 =>
k17 .ret (upd (upd (upd (upd (upd (upd (upd (upd (upd (upd (upd (upd (upd t 13 v_18) 14 v_20) 15 v_22) 16 v_24) 17 v_26) 18 v_28) 19 v_30) 20 v_32) 21 v_34) 22 v_36) 23 v_38) 24 v_40) 4 v_42) h43) (
k17 .normal (upd (upd (upd (upd (upd (upd (upd t 13 v_18) 14 v_20) 15 v_22) 16 v_24) 17 v_26) 18 v_28) 19 v_30) h31)

def L_precentorref9_Clock_Next_1 (P : Program) (call : FuncId → List AVal → Heap → Res AVal) (fuel : Nat) (t : T) (h : Heap) : Res (Ex × T) :=
lt okK fun k =>
lt (sqK (J_precentorref9_Clock_Next_2 P call fuel k) k) fun k44 =>
arb (.val (t 5) h) call fun v_45 h46 =>
arb (.of (fadR 0 (t 2)) h46) call fun v_47 h48 =>
arb (.of (ld1 h48 v_47) h48) call fun v_49 h50 =>
arb (.of (lenL v_49) h50) call fun v_51 h52 =>
arb (.of (aBin P .lss 3 (.tmp 6) (.tmp 9) v_45 v_51) h52) call fun v_53 h54 =>
cb v_53 (
k44 .normal (upd (upd (upd (upd (upd t 6 v_45) 7 v_47) 8 v_49) 9 v_51) 10 v_53) h54) (
k44 (.exit 0) (upd (upd (upd (upd (upd t 6 v_45) 7 v_47) 8 v_49) 9 v_51) 10 v_53) h54)

def S_precentorref9_Clock_Next (P : Program) (call : FuncId → List AVal → Heap → Res AVal) (fuel : Nat) (c_a0 place_a1 : AVal) (h : Heap) : Res AVal :=
lt (retK P [.tmp 4]) fun k =>
arb (boxR c_a0 h) call fun c_0 h1 =>
arb (.val (.int .i64 0) h1) call fun v_2 h3 =>
lt (sqK (J_precentorref9_Clock_Next_0 P call fuel k) k) fun k6 =>
arb (.val (.int .i64 0) h3) call fun i_7 h8 =>
lt (blkK 0 k6) fun k9 =>
(loopN (L_precentorref9_Clock_Next_1 P call fuel) fuel (upd (upd (upd (enterT [c_a0, place_a1]) 2 c_0) 4 v_2) 5 i_7) h8).bind (lpK k9)
theorem E_precentorref9_Clock_Next (call : FuncId → List AVal → Heap → Res AVal) (fuel : Nat) (c_a0 place_a1 : AVal) (h : Heap) : bodyR Try.prog call fuel Try.f16 [c_a0, place_a1] h = S_precentorref9_Clock_Next Try.prog call fuel c_a0 place_a1 h := by kernel_rfl
theorem R_precentorref9_Clock_Next {X : XTab} (c_a0 place_a1 : AVal) {h : Heap} {Q : AVal → Heap → Prop} (hx : X F_precentorref9_Clock_Next [c_a0, place_a1] = none) (q : Tells (fun m => S_precentorref9_Clock_Next Try.prog (acallX Try.prog X m) m c_a0 place_a1 h) Q) :
    Tells (fun m => acallX Try.prog X m F_precentorref9_Clock_Next [c_a0, place_a1] h) Q :=
  Tells.later (q.le fun m => (E_precentorref9_Clock_Next (acallX Try.prog X m) m c_a0 place_a1 h) ▸ acallX_le Try.func16 hx m h)

/-! ### precentor/precentorref9.NewClock -/
def J_precentorref9_NewClock_1 (P : Program) (call : FuncId → List AVal → Heap → Res AVal) (fuel : Nat) (k : Kn (AVal)) (t : T) (h : Heap) : Res (AVal) :=
arb (.of (ldn 2 h (t 3)) h) call fun v_8 h9 =>
arb (stR 2 h9 (t 2) v_8) call fun v_10 h11 =>
k .ret (upd t 38 v_8) h11

def J_precentorref9_NewClock_4 (P : Program) (call : FuncId → List AVal → Heap → Res AVal) (fuel : Nat) (k : Kn (Ex × T)) (t : T) (h : Heap) : Res (Ex × T) :=
arb (.val (t 5) h) call fun v_16 h17 =>
arb (.of (aBin P .add 3 (.tmp 31) (.const (.int .i64 1)) v_16 (.int .i64 1)) h17) call fun v_18 h19 =>
arb (.val v_18 h19) call fun i_20 h21 =>
k .normal (upd (upd (upd t 31 v_16) 32 v_18) 5 i_20) h21

def J_precentorref9_NewClock_3 (P : Program) (call : FuncId → List AVal → Heap → Res AVal) (fuel : Nat) (k : Kn (Ex × T)) (t : T) (h : Heap) : Res (Ex × T) :=
lt (sqK (J_precentorref9_NewClock_4 P call fuel k) k) fun k22 =>
lt (blkK 3 k22) fun k23 =>
arb (.of (fadR 1 (t 3)) h) call fun v_24 h25 =>
arb (.of (ld1 h25 v_24) h25) call fun v_26 h27 =>
arb (bslR 1 [(.int .i64 0)] 1 h27 [(0, 1, (.int .i64 1))]) call fun v_28 h29 =>
arb (appR 1 8 h29 v_26 v_28) call fun v_30 h31 =>
arb (.of (fadR 1 (t 3)) h31) call fun v_32 h33 =>
arb (stR 1 h33 v_32 v_30) call fun v_34 h35 =>
k23 .normal (upd (upd (upd (upd (upd t 33 v_24) 34 v_26) 35 v_28) 36 v_30) 37 v_32) h35

def L_precentorref9_NewClock_2 (P : Program) (call : FuncId → List AVal → Heap → Res AVal) (fuel : Nat) (t : T) (h : Heap) : Res (Ex × T) :=
lt okK fun k =>
lt (sqK (J_precentorref9_NewClock_3 P call fuel k) k) fun k36 =>
arb (.val (t 5) h) call fun v_37 h38 =>
arb (.of (fadR 0 (t 3)) h38) call fun v_39 h40 =>
arb (.of (ld1 h40 v_39) h40) call fun v_41 h42 =>
arb (.of (lenL v_41) h42) call fun v_43 h44 =>
arb (.of (aBin P .lss 3 (.tmp 26) (.tmp 29) v_37 v_43) h44) call fun v_45 h46 =>
cb v_45 (
k36 .normal (upd (upd (upd (upd (upd t 26 v_37) 27 v_39) 28 v_41) 29 v_43) 30 v_45) h46) (
k36 (.exit 2) (upd (upd (upd (upd (upd t 26 v_37) 27 v_39) 28 v_41) 29 v_43) 30 v_45) h46)

def J_precentorref9_NewClock_0 (P : Program) (call : FuncId → List AVal → Heap → Res AVal) (fuel : Nat) (k : Kn (AVal)) (t : T) (h : Heap) : Res (AVal) :=
lt (sqK (J_precentorref9_NewClock_1 P call fuel k) k) fun k12 =>
arb (.val (.int .i64 0) h) call fun i_13 h14 =>
lt (blkK 2 k12) fun k15 =>
(loopN (L_precentorref9_NewClock_2 P call fuel) fuel (upd t 5 i_13) h14).bind (lpK k15)

def J_precentorref9_NewClock_7 (P : Program) (call : FuncId → List AVal → Heap → Res AVal) (fuel : Nat) (k : Kn (Ex × T)) (t : T) (h : Heap) : Res (Ex × T) :=
arb (.val (t 4) h) call fun v_51 h52 =>
arb (.of (aBin P .add 3 (.tmp 11) (.const (.int .i64 1)) v_51 (.int .i64 1)) h52) call fun v_53 h54 =>
arb (.val v_53 h54) call fun i_55 h56 =>
k .normal (upd (upd (upd t 11 v_51) 12 v_53) 4 i_55) h56

def J_precentorref9_NewClock_6 (P : Program) (call : FuncId → List AVal → Heap → Res AVal) (fuel : Nat) (k : Kn (Ex × T)) (t : T) (h : Heap) : Res (Ex × T) :=
lt (sqK (J_precentorref9_NewClock_7 P call fuel k) k) fun k57 =>
lt (blkK 1 k57) fun k58 =>
arb (.val (t 0) h) call fun v_59 h60 =>
arb (.val (t 4) h60) call fun v_61 h62 =>
arb (.of (ixsR 1 v_59 v_61) h62) call fun v_63 h64 =>
arb (.of (ld1 h64 v_63) h64) call fun v_65 h66 =>
arb (.of (aBin P .geq 3 (.tmp 16) (.const (.int .i64 0)) v_65 (.int .i64 0)) h66) call fun v_67 h68 =>
cb v_67 (
obv (.of (fadR 0 (t 3)) h68) fun v_69 =>
obv (.of (ld1 h68 v_69) h68) fun v_71 => ifb true <|
obv (.val (t 0) h68) fun v_73 =>
obv (.val (t 4) h68) fun v_75 =>
obv (.of (ixsR 1 v_73 v_75) h68) fun v_77 =>
obv (.of (ld1 h68 v_77) h68) fun v_79 => ifb true <|
arbE (.call F_precentorref9_Put [v_71, v_79] h68) call fun v_81 h82 => lt h82 fun g82 => ifb (true && true) <|
obv (.of (fadR 0 (t 3)) g82) fun v_83 =>
arbE (stR 1 g82 v_83 v_81) call fun v_85 h86 => lt h86 fun g86 => ifb (true && true) <|
k58 .normal (upd (upd (upd (upd (upd (upd (upd (upd (upd (upd (upd (upd (upd t 13 v_59) 14 v_61) 15 v_63) 16 v_65) 17 v_67) 18 v_69) 19 v_71) 20 v_73) 21 v_75) 22 v_77) 23 v_79) 24 v_81) 25 v_83) g86) (
k58 .normal (upd (upd (upd (upd (upd t 13 v_59) 14 v_61) 15 v_63) 16 v_65) 17 v_67) h68)

def L_precentorref9_NewClock_5 (P : Program) (call : FuncId → List AVal → Heap → Res AVal) (fuel : Nat) (t : T) (h : Heap) : Res (Ex × T) :=
lt okK fun k =>
lt (sqK (J_precentorref9_NewClock_6 P call fuel k) k) fun k87 =>
arb (.val (t 4) h) call fun v_88 h89 =>
arb (.val (t 0) h89) call fun v_90 h91 =>
arb (.of (lenL v_90) h91) call fun v_92 h93 =>
arb (.of (aBin P .lss 3 (.tmp 7) (.tmp 9) v_88 v_92) h93) call fun v_94 h95 =>
cb v_94 (
k87 .normal (upd (upd (upd (upd t 7 v_88) 8 v_90) 9 v_92) 10 v_94) h95) (
k87 (.exit 0) (upd (upd (upd (upd t 7 v_88) 8 v_90) 9 v_92) 10 v_94) h95)

theorem C_precentorref9_NewClock_0 (h : Heap) (a : AVal) : aLoad Try.prog h 57 a = ldn 2 h a := by kernel_rfl
def S_precentorref9_NewClock (P : Program) (call : FuncId → List AVal → Heap → Res AVal) (fuel : Nat) (own_a0 : AVal) (h : Heap) : Res AVal :=
lt (retK P [.cell 2 57]) fun k =>
arb (newR [.nils, .nils] h) call fun v_0 h1 =>
arb (.of (bldR [.nils, .nils] []) h1) call fun v_2 h3 =>
arb (newR [.nils, .nils] h3) call fun c_4 h5 =>
arb (stR 2 h5 c_4 v_2) call fun v_6 h7 =>
lt (sqK (J_precentorref9_NewClock_0 P call fuel k) k) fun k47 =>
arb (.val (.int .i64 0) h7) call fun i_48 h49 =>
lt (blkK 0 k47) fun k50 =>
(loopN (L_precentorref9_NewClock_5 P call fuel) fuel (upd (upd (upd (upd (enterT [own_a0]) 2 v_0) 6 v_2) 3 c_4) 4 i_48) h49).bind (lpK k50)
theorem E_precentorref9_NewClock (call : FuncId → List AVal → Heap → Res AVal) (fuel : Nat) (own_a0 : AVal) (h : Heap) : bodyR Try.prog call fuel Try.f29 [own_a0] h = S_precentorref9_NewClock Try.prog call fuel own_a0 h := by kernel_rfl
theorem R_precentorref9_NewClock {X : XTab} (own_a0 : AVal) {h : Heap} {Q : AVal → Heap → Prop} (hx : X F_precentorref9_NewClock [own_a0] = none) (q : Tells (fun m => S_precentorref9_NewClock Try.prog (acallX Try.prog X m) m own_a0 h) Q) :
    Tells (fun m => acallX Try.prog X m F_precentorref9_NewClock [own_a0] h) Q :=
  Tells.later (q.le fun m => (E_precentorref9_NewClock (acallX Try.prog X m) m own_a0 h) ▸ acallX_le Try.func29 hx m h)

/-! ### (precentor/precentorref9.Clock).Due -/
def J_precentorref9_Clock_Due_1 (P : Program) (call : FuncId → List AVal → Heap → Res AVal) (fuel : Nat) (k : Kn (AVal)) (t : T) (h : Heap) : Res (AVal) :=
arb (.val (.bool true) h) call fun v_4 h5 =>
k .ret (upd t 4 v_4) h5

def J_precentorref9_Clock_Due_4 (P : Program) (call : FuncId → List AVal → Heap → Res AVal) (fuel : Nat) (k : Kn (Ex × T)) (t : T) (h : Heap) : Res (Ex × T) :=
arb (.val (t 6) h) call fun v_10 h11 =>
arb (.of (aBin P .add 3 (.tmp 33) (.const (.int .i64 1)) v_10 (.int .i64 1)) h11) call fun v_12 h13 =>
arb (.val v_12 h13) call fun i_14 h15 =>
k .normal (upd (upd (upd t 33 v_10) 34 v_12) 6 i_14) h15

def J_precentorref9_Clock_Due_3 (P : Program) (call : FuncId → List AVal → Heap → Res AVal) (fuel : Nat) (k : Kn (Ex × T)) (t : T) (h : Heap) : Res (Ex × T) :=
lt (sqK (J_precentorref9_Clock_Due_4 P call fuel k) k) fun k16 =>
lt (blkK 3 k16) fun k17 =>
obv (.of (fadR 0 (t 2)) h) fun v_18 =>
obv (.of (ld1 h v_18) h) fun v_20 => ifb true <|
obv (.val (t 1) h) fun v_22 =>
obv (.val (t 6) h) fun v_24 =>
obv (.of (ixsR 2 v_22 v_24) h) fun v_26 =>
obv (.of (fadR 0 v_26) h) fun v_28 =>
obv (.of (ld1 h v_28) h) fun v_30 => ifb true <|
arbE (.call F_precentorref9_In [v_20, v_30] h) call fun v_32 h33 => lt h33 fun g33 => ifb (true && true) <|
obv (.val v_32 g33) fun v_34 =>
gdr (wantB v_34 true) (fun c => obv (.of (ldn 2 g33 (t 2)) g33) fun v_36 => ifb true <|
c true v_36 g33) g33 fun w38 v_36 h38 =>
gdr (wantB v_34 true) (fun c => obv (.val (t 1) h38) fun v_39 =>
c true v_39 h38) h38 fun w41 v_39 h41 =>
gdr (wantB v_34 true) (fun c => obv (.val (t 6) h41) fun v_42 =>
c true v_42 h41) h41 fun w44 v_42 h44 =>
gdr (wantB v_34 true) (fun c => obv (.of (ixsR 2 v_39 v_42) h44) fun v_45 =>
c true v_45 h44) h44 fun w47 v_45 h47 =>
gdr (wantB v_34 true) (fun c => obv (.of (fadR 0 v_45) h47) fun v_48 =>
c true v_48 h47) h47 fun w50 v_48 h50 =>
gdr (wantB v_34 true) (fun c => obv (.of (ld1 h50 v_48) h50) fun v_51 => ifb true <|
c true v_51 h50) h50 fun w53 v_51 h53 =>
gdr (wantB v_34 true) (fun c => arbE (.call F_precentorref9_Clock_Next [v_36, v_51] h53) call fun v_54 h55 => lt h55 fun g55 => ifb (true && true) <|
c true v_54 g55) h53 fun w56 v_54 h56 =>
gdr (wantB v_34 true) (fun c => obv (.val (t 1) h56) fun v_57 =>
c true v_57 h56) h56 fun w59 v_57 h59 =>
gdr (wantB v_34 true) (fun c => obv (.val (t 6) h59) fun v_60 =>
c true v_60 h59) h59 fun w62 v_60 h62 =>
gdr (wantB v_34 true) (fun c => obv (.of (ixsR 2 v_57 v_60) h62) fun v_63 =>
c true v_63 h62) h62 fun w65 v_63 h65 =>
gdr (wantB v_34 true) (fun c => obv (.of (fadR 1 v_63) h65) fun v_66 =>
c true v_66 h65) h65 fun w68 v_66 h68 =>
gdr (wantB v_34 true) (fun c => obv (.of (ld1 h68 v_66) h68) fun v_69 => ifb ((!w56 || isV v_69 (arVal (.of (ld1 h53 v_66) h53))) && true) <|
c true v_69 h68) h68 fun w71 v_69 h71 =>
gdr (wantB v_34 true) (fun c => obv (.of (aBin P .neq 3 (.tmp 50) (.tmp 55) v_54 v_69) h71) fun v_72 =>
c true v_72 h71) h71 fun w74 v_72 h74 =>
obv (pkR v_34 v_72 (.bool false) h74) fun v_75 =>
cb v_75 (
arb (.val (.bool false) h74) call fun v_77 h78 =>
k17 .ret (upd (upd (upd (upd (upd (upd (upd (upd (upd (upd (upd (upd (upd (upd (upd (upd (upd (upd (upd (upd (upd (upd (upd (upd t 35 v_18) 36 v_20) 37 v_22) 38 v_24) 39 v_26) 40 v_28) 41 v_30) 42 v_32) 43 v_34) 44 v_36) 45 v_39) 46 v_42) 47 v_45) 48 v_48) 49 v_51) 50 v_54) 51 v_57) 52 v_60) 53 v_63) 54 v_66) 55 v_69) 56 v_72) 57 v_75) 4 v_77) h78) (
k17 .normal (upd (upd (upd (upd (upd (upd (upd (upd (upd (upd (upd (upd (upd (upd (upd (upd (upd (upd (upd (upd (upd (upd (upd t 35 v_18) 36 v_20) 37 v_22) 38 v_24) 39 v_26) 40 v_28) 41 v_30) 42 v_32) 43 v_34) 44 v_36) 45 v_39) 46 v_42) 47 v_45) 48 v_48) 49 v_51) 50 v_54) 51 v_57) 52 v_60) 53 v_63) 54 v_66) 55 v_69) 56 v_72) 57 v_75) h74)

def L_precentorref9_Clock_Due_2 (P : Program) (call : FuncId → List AVal → Heap → Res AVal) (fuel : Nat) (t : T) (h : Heap) : Res (Ex × T) :=
lt okK fun k =>
lt (sqK (J_precentorref9_Clock_Due_3 P call fuel k) k) fun k79 =>
arb (.val (t 6) h) call fun v_80 h81 =>
arb (.val (t 1) h81) call fun v_82 h83 =>
arb (.of (lenL v_82) h83) call fun v_84 h85 =>
arb (.of (aBin P .lss 3 (.tmp 29) (.tmp 31) v_80 v_84) h85) call fun v_86 h87 =>
cb v_86 (
k79 .normal (upd (upd (upd (upd t 29 v_80) 30 v_82) 31 v_84) 32 v_86) h87) (
k79 (.exit 2) (upd (upd (upd (upd t 29 v_80) 30 v_82) 31 v_84) 32 v_86) h87)

def J_precentorref9_Clock_Due_0 (P : Program) (call : FuncId → List AVal → Heap → Res AVal) (fuel : Nat) (k : Kn (AVal)) (t : T) (h : Heap) : Res (AVal) :=
lt (sqK (J_precentorref9_Clock_Due_1 P call fuel k) k) fun k6 =>
arb (.val (.int .i64 0) h) call fun i_7 h8 =>
lt (blkK 2 k6) fun k9 =>
(loopN (L_precentorref9_Clock_Due_2 P call fuel) fuel (upd t 6 i_7) h8).bind (lpK k9)

def J_precentorref9_Clock_Due_7 (P : Program) (call : FuncId → List AVal → Heap → Res AVal) (fuel : Nat) (k : Kn (Ex × T)) (t : T) (h : Heap) : Res (Ex × T) :=
arb (.val (t 5) h) call fun v_92 h93 =>
arb (.of (aBin P .add 3 (.tmp 11) (.const (.int .i64 1)) v_92 (.int .i64 1)) h93) call fun v_94 h95 =>
arb (.val v_94 h95) call fun i_96 h97 =>
k .normal (upd (upd (upd t 11 v_92) 12 v_94) 5 i_96) h97

def J_precentorref9_Clock_Due_6 (P : Program) (call : FuncId → List AVal → Heap → Res AVal) (fuel : Nat) (k : Kn (Ex × T)) (t : T) (h : Heap) : Res (Ex × T) :=
lt (sqK (J_precentorref9_Clock_Due_7 P call fuel k) k) fun k98 =>
lt (blkK 1 k98) fun k99 =>
obv (.val (t 5) h) fun v_100 =>
obv (.of (aBin P .gtr 3 (.tmp 13) (.const (.int .i64 0)) v_100 (.int .i64 0)) h) fun v_101 =>
obv (.val v_101 h) fun v_102 =>
gd (wantB v_102 true) (fun c => obv (.val (t 1) h) fun v => c v h) h fun v_103 h104 =>
gd (wantB v_102 true) (fun c => obv (.val (t 5) h104) fun v => c v h104) h104 fun v_105 h106 =>
gd (wantB v_102 true) (fun c => obv (.of (aBin P .sub 3 (.tmp 17) (.const (.int .i64 1)) v_105 (.int .i64 1)) h106) fun v => c v h106) h106 fun v_107 h108 =>
gd (wantB v_102 true) (fun c => obv (.of (ixsR 2 v_103 v_107) h108) fun v => c v h108) h108 fun v_109 h110 =>
gd (wantB v_102 true) (fun c => obv (.of (fadR 0 v_109) h110) fun v => c v h110) h110 fun v_111 h112 =>
gd (wantB v_102 true) (fun c => obv (.of (ld1 h112 v_111) h112) fun v => c v h112) h112 fun v_113 h114 =>
gd (wantB v_102 true) (fun c => obv (.val (t 1) h114) fun v => c v h114) h114 fun v_115 h116 =>
gd (wantB v_102 true) (fun c => obv (.val (t 5) h116) fun v => c v h116) h116 fun v_117 h118 =>
gd (wantB v_102 true) (fun c => obv (.of (ixsR 2 v_115 v_117) h118) fun v => c v h118) h118 fun v_119 h120 =>
gd (wantB v_102 true) (fun c => obv (.of (fadR 0 v_119) h120) fun v => c v h120) h120 fun v_121 h122 =>
gd (wantB v_102 true) (fun c => obv (.of (ld1 h122 v_121) h122) fun v => c v h122) h122 fun v_123 h124 =>
gd (wantB v_102 true) (fun c => obv (.of (aBin P .geq 3 (.tmp 21) (.tmp 26) v_113 v_123) h124) fun v => c v h124) h124 fun v_125 h126 =>
obv (pkR v_102 v_125 (.bool false) h126) fun v_127 =>
cb v_127 (
arb (.val (.bool false) h126) call fun v_128 h129 =>
k99 .ret (upd (upd (upd (upd (upd (upd (upd (upd (upd (upd (upd (upd (upd (upd (upd (upd (upd t 13 v_100) 14 v_101) 15 v_102) 16 v_103) 17 v_105) 18 v_107) 19 v_109) 20 v_111) 21 v_113) 22 v_115) 23 v_117) 24 v_119) 25 v_121) 26 v_123) 27 v_125) 28 v_127) 4 v_128) h129) (
k99 .normal (upd (upd (upd (upd (upd (upd (upd (upd (upd (upd (upd (upd (upd (upd (upd (upd t 13 v_100) 14 v_101) 15 v_102) 16 v_103) 17 v_105) 18 v_107) 19 v_109) 20 v_111) 21 v_113) 22 v_115) 23 v_117) 24 v_119) 25 v_121) 26 v_123) 27 v_125) 28 v_127) h126)

def L_precentorref9_Clock_Due_5 (P : Program) (call : FuncId → List AVal → Heap → Res AVal) (fuel : Nat) (t : T) (h : Heap) : Res (Ex × T) :=
lt okK fun k =>
lt (sqK (J_precentorref9_Clock_Due_6 P call fuel k) k) fun k130 =>
arb (.val (t 5) h) call fun v_131 h132 =>
arb (.val (t 1) h132) call fun v_133 h134 =>
arb (.of (lenL v_133) h134) call fun v_135 h136 =>
arb (.of (aBin P .lss 3 (.tmp 7) (.tmp 9) v_131 v_135) h136) call fun v_137 h138 =>
cb v_137 (
k130 .normal (upd (upd (upd (upd t 7 v_131) 8 v_133) 9 v_135) 10 v_137) h138) (
k130 (.exit 0) (upd (upd (upd (upd t 7 v_131) 8 v_133) 9 v_135) 10 v_137) h138)

def S_precentorref9_Clock_Due (P : Program) (call : FuncId → List AVal → Heap → Res AVal) (fuel : Nat) (c_a0 l_a1 : AVal) (h : Heap) : Res AVal :=
lt (retK P [.tmp 4]) fun k =>
arb (boxR c_a0 h) call fun c_0 h1 =>
arb (.val (.bool false) h1) call fun v_2 h3 =>
lt (sqK (J_precentorref9_Clock_Due_0 P call fuel k) k) fun k88 =>
arb (.val (.int .i64 0) h3) call fun i_89 h90 =>
lt (blkK 0 k88) fun k91 =>
(loopN (L_precentorref9_Clock_Due_5 P call fuel) fuel (upd (upd (upd (enterT [c_a0, l_a1]) 2 c_0) 4 v_2) 5 i_89) h90).bind (lpK k91)
theorem E_precentorref9_Clock_Due (call : FuncId → List AVal → Heap → Res AVal) (fuel : Nat) (c_a0 l_a1 : AVal) (h : Heap) : bodyR Try.prog call fuel Try.f30 [c_a0, l_a1] h = S_precentorref9_Clock_Due Try.prog call fuel c_a0 l_a1 h := by kernel_rfl
theorem R_precentorref9_Clock_Due {X : XTab} (c_a0 l_a1 : AVal) {h : Heap} {Q : AVal → Heap → Prop} (hx : X F_precentorref9_Clock_Due [c_a0, l_a1] = none) (q : Tells (fun m => S_precentorref9_Clock_Due Try.prog (acallX Try.prog X m) m c_a0 l_a1 h) Q) :
    Tells (fun m => acallX Try.prog X m F_precentorref9_Clock_Due [c_a0, l_a1] h) Q :=
  Tells.later (q.le fun m => (E_precentorref9_Clock_Due (acallX Try.prog X m) m c_a0 l_a1 h) ▸ acallX_le Try.func30 hx m h)

/-! ### (precentor/precentorref9.Clock).Take -/
def J_precentorref9_Clock_Take_1 (P : Program) (call : FuncId → List AVal → Heap → Res AVal) (fuel : Nat) (k : Kn (AVal)) (t : T) (h : Heap) : Res (AVal) :=
arb (.of (ldn 2 h (t 5)) h) call fun v_14 h15 =>
arb (stR 2 h15 (t 4) v_14) call fun v_16 h17 =>
k .ret (upd t 58 v_14) h17

def J_precentorref9_Clock_Take_4 (P : Program) (call : FuncId → List AVal → Heap → Res AVal) (fuel : Nat) (k : Kn (Ex × T)) (t : T) (h : Heap) : Res (Ex × T) :=
arb (.val (t 6) h) call fun v_22 h23 =>
arb (.of (aBin P .add 3 (.tmp 22) (.const (.int .i64 1)) v_22 (.int .i64 1)) h23) call fun v_24 h25 =>
arb (.val v_24 h25) call fun i_26 h27 =>
k .normal (upd (upd (upd t 22 v_22) 23 v_24) 6 i_26) h27

def J_precentorref9_Clock_Take_5 (P : Program) (call : FuncId → List AVal → Heap → Res AVal) (fuel : Nat) (k : Kn (Ex × T)) (t : T) (h : Heap) : Res (Ex × T) :=
arb (.of (fadR 1 (t 5)) h) call fun v_42 h43 =>
arb (.of (ld1 h43 v_42) h43) call fun v_44 h45 =>
arb (.val (t 7) h45) call fun v_46 h47 =>
arb (bslR 1 [(.int .i64 0)] 1 h47 [(0, 1, v_46)]) call fun v_48 h49 =>
arb (appR 1 8 h49 v_44 v_48) call fun v_50 h51 =>
arb (.of (fadR 1 (t 5)) h51) call fun v_52 h53 =>
arb (stR 1 h53 v_52 v_50) call fun v_54 h55 =>
k .normal (upd (upd (upd (upd (upd (upd t 52 v_42) 53 v_44) 54 v_46) 55 v_48) 56 v_50) 57 v_52) h55

def J_precentorref9_Clock_Take_8 (P : Program) (call : FuncId → List AVal → Heap → Res AVal) (fuel : Nat) (k : Kn (Ex × T)) (t : T) (h : Heap) : Res (Ex × T) :=
arb (.val (t 8) h) call fun v_60 h61 =>
arb (.of (aBin P .add 3 (.tmp 33) (.const (.int .i64 1)) v_60 (.int .i64 1)) h61) call fun v_62 h63 =>
arb (.val v_62 h63) call fun k_64 h65 =>
k .normal (upd (upd (upd t 33 v_60) 34 v_62) 8 k_64) h65

def J_precentorref9_Clock_Take_7 (P : Program) (call : FuncId → List AVal → Heap → Res AVal) (fuel : Nat) (k : Kn (Ex × T)) (t : T) (h : Heap) : Res (Ex × T) :=
lt (sqK (J_precentorref9_Clock_Take_8 P call fuel k) k) fun k66 =>
lt (blkK 3 k66) fun k67 =>
obv (.val (t 1) h) fun v_68 =>
obv (.val (t 8) h) fun v_69 =>
obv (.of (ixsR 2 v_68 v_69) h) fun v_70 =>
obv (.of (fadR 0 v_70) h) fun v_71 =>
obv (.of (ld1 h v_71) h) fun v_72 =>
obv (.of (fadR 0 (t 2)) h) fun v_73 =>
obv (.of (ld1 h v_73) h) fun v_74 =>
obv (.val (t 6) h) fun v_75 =>
obv (.of (ixsR 1 v_74 v_75) h) fun v_76 =>
obv (.of (ld1 h v_76) h) fun v_77 =>
obv (.of (aBin P .eql 3 (.tmp 39) (.tmp 44) v_72 v_77) h) fun v_78 =>
cb v_78 (
arb (.of (fadR 1 (t 2)) h) call fun v_79 h80 =>
arb (.of (ld1 h80 v_79) h80) call fun v_81 h82 =>
arb (.val (t 6) h82) call fun v_83 h84 =>
arb (.of (ixsR 1 v_81 v_83) h84) call fun v_85 h86 =>
arb (.of (ld1 h86 v_85) h86) call fun v_87 h88 =>
arb (.of (aBin P .add 3 (.tmp 50) (.const (.int .i64 1)) v_87 (.int .i64 1)) h88) call fun v_89 h90 =>
arb (.val v_89 h90) call fun n_91 h92 =>
k67 .normal (upd (upd (upd (upd (upd (upd (upd (upd (upd (upd (upd (upd (upd (upd (upd (upd (upd (upd t 35 v_68) 36 v_69) 37 v_70) 38 v_71) 39 v_72) 40 v_73) 41 v_74) 42 v_75) 43 v_76) 44 v_77) 45 v_78) 46 v_79) 47 v_81) 48 v_83) 49 v_85) 50 v_87) 51 v_89) 7 n_91) h92) (
k67 .normal (upd (upd (upd (upd (upd (upd (upd (upd (upd (upd (upd t 35 v_68) 36 v_69) 37 v_70) 38 v_71) 39 v_72) 40 v_73) 41 v_74) 42 v_75) 43 v_76) 44 v_77) 45 v_78) h)

def L_precentorref9_Clock_Take_6 (P : Program) (call : FuncId → List AVal → Heap → Res AVal) (fuel : Nat) (t : T) (h : Heap) : Res (Ex × T) :=
lt okK fun k =>
lt (sqK (J_precentorref9_Clock_Take_7 P call fuel k) k) fun k93 =>
arb (.val (t 8) h) call fun v_94 h95 =>
arb (.val (t 1) h95) call fun v_96 h97 =>
arb (.of (lenL v_96) h97) call fun v_98 h99 =>
arb (.of (aBin P .lss 3 (.tmp 29) (.tmp 31) v_94 v_98) h99) call fun v_100 h101 =>
cb v_100 (
k93 .normal (upd (upd (upd (upd t 29 v_94) 30 v_96) 31 v_98) 32 v_100) h101) (
k93 (.exit 2) (upd (upd (upd (upd t 29 v_94) 30 v_96) 31 v_98) 32 v_100) h101)

def J_precentorref9_Clock_Take_3 (P : Program) (call : FuncId → List AVal → Heap → Res AVal) (fuel : Nat) (k : Kn (Ex × T)) (t : T) (h : Heap) : Res (Ex × T) :=
lt (sqK (J_precentorref9_Clock_Take_4 P call fuel k) k) fun k28 =>
lt (blkK 1 k28) fun k29 =>
arb (.of (fadR 1 (t 2)) h) call fun v_30 h31 =>
arb (.of (ld1 h31 v_30) h31) call fun v_32 h33 =>
arb (.val (t 6) h33) call fun v_34 h35 =>
arb (.of (ixsR 1 v_32 v_34) h35) call fun v_36 h37 =>
arb (.of (ld1 h37 v_36) h37) call fun v_38 h39 =>
arb (.val v_38 h39) call fun n_40 h41 =>
lt (sqK (J_precentorref9_Clock_Take_5 P call fuel k29) k29) fun k56 =>
arb (.val (.int .i64 0) h41) call fun k_57 h58 =>
lt (blkK 2 k56) fun k59 =>
(loopN (L_precentorref9_Clock_Take_6 P call fuel) fuel (upd (upd (upd (upd (upd (upd (upd t 24 v_30) 25 v_32) 26 v_34) 27 v_36) 28 v_38) 7 n_40) 8 k_57) h58).bind (lpK k59)

def L_precentorref9_Clock_Take_2 (P : Program) (call : FuncId → List AVal → Heap → Res AVal) (fuel : Nat) (t : T) (h : Heap) : Res (Ex × T) :=
lt okK fun k =>
lt (sqK (J_precentorref9_Clock_Take_3 P call fuel k) k) fun k102 =>
arb (.val (t 6) h) call fun v_103 h104 =>
arb (.of (fadR 0 (t 2)) h104) call fun v_105 h106 =>
arb (.of (ld1 h106 v_105) h106) call fun v_107 h108 =>
arb (.of (lenL v_107) h108) call fun v_109 h110 =>
arb (.of (aBin P .lss 3 (.tmp 17) (.tmp 20) v_103 v_109) h110) call fun v_111 h112 =>
cb v_111 (
k102 .normal (upd (upd (upd (upd (upd t 17 v_103) 18 v_105) 19 v_107) 20 v_109) 21 v_111) h112) (
k102 (.exit 0) (upd (upd (upd (upd (upd t 17 v_103) 18 v_105) 19 v_107) 20 v_109) 21 v_111) h112)

def J_precentorref9_Clock_Take_0 (P : Program) (call : FuncId → List AVal → Heap → Res AVal) (fuel : Nat) (k : Kn (AVal)) (t : T) (h : Heap) : Res (AVal) :=
arb (.of (fadR 0 (t 2)) h) call fun v_4 h5 =>
arb (.of (ld1 h5 v_4) h5) call fun v_6 h7 =>
arb (.of (bldR [.nils, .nils] [(0, 1, v_6)]) h7) call fun v_8 h9 =>
arb (newR [.nils, .nils] h9) call fun d_10 h11 =>
arb (stR 2 h11 d_10 v_8) call fun v_12 h13 =>
lt (sqK (J_precentorref9_Clock_Take_1 P call fuel k) k) fun k18 =>
arb (.val (.int .i64 0) h13) call fun i_19 h20 =>
lt (blkK 0 k18) fun k21 =>
(loopN (L_precentorref9_Clock_Take_2 P call fuel) fuel (upd (upd (upd (upd (upd t 14 v_4) 15 v_6) 16 v_8) 5 d_10) 6 i_19) h20).bind (lpK k21)

theorem C_precentorref9_Clock_Take_0 (h : Heap) (a : AVal) : aLoad Try.prog h 57 a = ldn 2 h a := by kernel_rfl
def S_precentorref9_Clock_Take (P : Program) (call : FuncId → List AVal → Heap → Res AVal) (fuel : Nat) (c_a0 l_a1 : AVal) (h : Heap) : Res AVal :=
lt (retK P [.cell 4 57]) fun k =>
arb (boxR c_a0 h) call fun c_0 h1 =>
arb (newR [.nils, .nils] h1) call fun v_2 h3 =>
lt (sqK (J_precentorref9_Clock_Take_0 P call fuel k) k) fun k113 =>
arb (.of (ldn 2 h3 c_0) h3) call fun v_114 h115 =>
arb (.val l_a1 h115) call fun v_116 h117 =>
arb (.call F_precentorref9_Clock_Due [v_114, v_116] h117) call fun v_118 h119 =>
arb (.of (aUn P .not v_118) h119) call fun v_120 h121 =>
cb v_120 (
arb (.of (ldn 2 h121 c_0) h121) call fun v_122 h123 =>
arb (stR 2 h123 v_2 v_122) call fun v_124 h125 =>
k113 .ret (upd (upd (upd (upd (upd (upd (upd (enterT [c_a0, l_a1]) 2 c_0) 4 v_2) 9 v_114) 10 v_116) 11 v_118) 12 v_120) 13 v_122) h125) (
k113 .normal (upd (upd (upd (upd (upd (upd (enterT [c_a0, l_a1]) 2 c_0) 4 v_2) 9 v_114) 10 v_116) 11 v_118) 12 v_120) h121)
theorem E_precentorref9_Clock_Take (call : FuncId → List AVal → Heap → Res AVal) (fuel : Nat) (c_a0 l_a1 : AVal) (h : Heap) : bodyR Try.prog call fuel Try.f31 [c_a0, l_a1] h = S_precentorref9_Clock_Take Try.prog call fuel c_a0 l_a1 h := by kernel_rfl
theorem R_precentorref9_Clock_Take {X : XTab} (c_a0 l_a1 : AVal) {h : Heap} {Q : AVal → Heap → Prop} (hx : X F_precentorref9_Clock_Take [c_a0, l_a1] = none) (q : Tells (fun m => S_precentorref9_Clock_Take Try.prog (acallX Try.prog X m) m c_a0 l_a1 h) Q) :
    Tells (fun m => acallX Try.prog X m F_precentorref9_Clock_Take [c_a0, l_a1] h) Q :=
  Tells.later (q.le fun m => (E_precentorref9_Clock_Take (acallX Try.prog X m) m c_a0 l_a1 h) ▸ acallX_le Try.func31 hx m h)

/-! ### precentor/precentorref9.Put -/
def J_precentorref9_Put_2 (P : Program) (call : FuncId → List AVal → Heap → Res AVal) (fuel : Nat) (k : Kn (AVal)) (t : T) (h : Heap) : Res (AVal) :=
arb (.val (t 5) h) call fun v_14 h15 =>
arb (.val v_14 h15) call fun v_16 h17 =>
k .ret (upd (upd t 56 v_14) 4 v_16) h17

def J_precentorref9_Put_5 (P : Program) (call : FuncId → List AVal → Heap → Res AVal) (fuel : Nat) (k : Kn (Ex × T)) (t : T) (h : Heap) : Res (Ex × T) :=
arb (.val (t 7) h) call fun v_22 h23 =>
arb (.of (aBin P .add 3 (.tmp 41) (.const (.int .i64 1)) v_22 (.int .i64 1)) h23) call fun v_24 h25 =>
arb (.val v_24 h25) call fun i_26 h27 =>
k .normal (upd (upd (upd t 41 v_22) 42 v_24) 7 i_26) h27

def J_precentorref9_Put_4 (P : Program) (call : FuncId → List AVal → Heap → Res AVal) (fuel : Nat) (k : Kn (Ex × T)) (t : T) (h : Heap) : Res (Ex × T) :=
lt (sqK (J_precentorref9_Put_5 P call fuel k) k) fun k28 =>
lt (blkK 3 k28) fun k29 =>
arb (.val (t 0) h) call fun v_30 h31 =>
arb (.val (t 7) h31) call fun v_32 h33 =>
arb (.of (ixsR 1 v_30 v_32) h33) call fun v_34 h35 =>
arb (.of (ld1 h35 v_34) h35) call fun v_36 h37 =>
arb (.val (t 1) h37) call fun v_38 h39 =>
arb (.of (aBin P .gtr 3 (.tmp 46) (.tmp 47) v_36 v_38) h39) call fun v_40 h41 =>
cb v_40 (
arb (.val (t 5) h41) call fun v_42 h43 =>
arb (.val (t 0) h43) call fun v_44 h45 =>
arb (.val (t 7) h45) call fun v_46 h47 =>
arb (.of (ixsR 1 v_44 v_46) h47) call fun v_48 h49 =>
arb (.of (ld1 h49 v_48) h49) call fun v_50 h51 =>
arb (bslR 1 [(.int .i64 0)] 1 h51 [(0, 1, v_50)]) call fun v_52 h53 =>
arb (appR 1 8 h53 v_42 v_52) call fun v_54 h55 =>
arb (.val v_54 h55) call fun out_56 h57 =>
k29 .normal (upd (upd (upd (upd (upd (upd (upd (upd (upd (upd (upd (upd (upd (upd t 43 v_30) 44 v_32) 45 v_34) 46 v_36) 47 v_38) 48 v_40) 49 v_42) 50 v_44) 51 v_46) 52 v_48) 53 v_50) 54 v_52) 55 v_54) 5 out_56) h57) (
k29 .normal (upd (upd (upd (upd (upd (upd t 43 v_30) 44 v_32) 45 v_34) 46 v_36) 47 v_38) 48 v_40) h41)

def L_precentorref9_Put_3 (P : Program) (call : FuncId → List AVal → Heap → Res AVal) (fuel : Nat) (t : T) (h : Heap) : Res (Ex × T) :=
lt okK fun k =>
lt (sqK (J_precentorref9_Put_4 P call fuel k) k) fun k58 =>
arb (.val (t 7) h) call fun v_59 h60 =>
arb (.val (t 0) h60) call fun v_61 h62 =>
arb (.of (lenL v_61) h62) call fun v_63 h64 =>
arb (.of (aBin P .lss 3 (.tmp 37) (.tmp 39) v_59 v_63) h64) call fun v_65 h66 =>
cb v_65 (
k58 .normal (upd (upd (upd (upd t 37 v_59) 38 v_61) 39 v_63) 40 v_65) h66) (
k58 (.exit 2) (upd (upd (upd (upd t 37 v_59) 38 v_61) 39 v_63) 40 v_65) h66)

def J_precentorref9_Put_1 (P : Program) (call : FuncId → List AVal → Heap → Res AVal) (fuel : Nat) (k : Kn (AVal)) (t : T) (h : Heap) : Res (AVal) :=
arb (.val (t 5) h) call fun v_4 h5 =>
arb (.val (t 1) h5) call fun v_6 h7 =>
arb (bslR 1 [(.int .i64 0)] 1 h7 [(0, 1, v_6)]) call fun v_8 h9 =>
arb (appR 1 8 h9 v_4 v_8) call fun v_10 h11 =>
arb (.val v_10 h11) call fun out_12 h13 =>
lt (sqK (J_precentorref9_Put_2 P call fuel k) k) fun k18 =>
arb (.val (.int .i64 0) h13) call fun i_19 h20 =>
lt (blkK 2 k18) fun k21 =>
(loopN (L_precentorref9_Put_3 P call fuel) fuel (upd (upd (upd (upd (upd (upd t 33 v_4) 34 v_6) 35 v_8) 36 v_10) 5 out_12) 7 i_19) h20).bind (lpK k21)

def J_precentorref9_Put_8 (P : Program) (call : FuncId → List AVal → Heap → Res AVal) (fuel : Nat) (k : Kn (Ex × T)) (t : T) (h : Heap) : Res (Ex × T) :=
arb (.val (t 6) h) call fun v_71 h72 =>
arb (.of (aBin P .add 3 (.tmp 24) (.const (.int .i64 1)) v_71 (.int .i64 1)) h72) call fun v_73 h74 =>
arb (.val v_73 h74) call fun i_75 h76 =>
k .normal (upd (upd (upd t 24 v_71) 25 v_73) 6 i_75) h76

def J_precentorref9_Put_7 (P : Program) (call : FuncId → List AVal → Heap → Res AVal) (fuel : Nat) (k : Kn (Ex × T)) (t : T) (h : Heap) : Res (Ex × T) :=
lt (sqK (J_precentorref9_Put_8 P call fuel k) k) fun k77 =>
lt (blkK 1 k77) fun k78 =>
arb (.val (t 5) h) call fun v_79 h80 =>
arb (.val (t 0) h80) call fun v_81 h82 =>
arb (.val (t 6) h82) call fun v_83 h84 =>
arb (.of (ixsR 1 v_81 v_83) h84) call fun v_85 h86 =>
arb (.of (ld1 h86 v_85) h86) call fun v_87 h88 =>
arb (bslR 1 [(.int .i64 0)] 1 h88 [(0, 1, v_87)]) call fun v_89 h90 =>
arb (appR 1 8 h90 v_79 v_89) call fun v_91 h92 =>
arb (.val v_91 h92) call fun out_93 h94 =>
k78 .normal (upd (upd (upd (upd (upd (upd (upd (upd t 26 v_79) 27 v_81) 28 v_83) 29 v_85) 30 v_87) 31 v_89) 32 v_91) 5 out_93) h94

def L_precentorref9_Put_6 (P : Program) (call : FuncId → List AVal → Heap → Res AVal) (fuel : Nat) (t : T) (h : Heap) : Res (Ex × T) :=
lt okK fun k =>
lt (sqK (J_precentorref9_Put_7 P call fuel k) k) fun k95 =>
arb (.val (t 6) h) call fun v_96 h97 =>
arb (.val (t 0) h97) call fun v_98 h99 =>
arb (.of (lenL v_98) h99) call fun v_100 h101 =>
arb (.of (aBin P .lss 3 (.tmp 12) (.tmp 14) v_96 v_100) h101) call fun v_102 h103 =>
arb (.val v_102 h103) call fun v_104 h105 =>
gd (wantB v_104 true) (fun c => arb (.val (t 0) h105) call c) h105 fun v_106 h107 =>
gd (wantB v_104 true) (fun c => arb (.val (t 6) h107) call c) h107 fun v_108 h109 =>
gd (wantB v_104 true) (fun c => arb (.of (ixsR 1 v_106 v_108) h109) call c) h109 fun v_110 h111 =>
gd (wantB v_104 true) (fun c => arb (.of (ld1 h111 v_110) h111) call c) h111 fun v_112 h113 =>
gd (wantB v_104 true) (fun c => arb (.val (t 1) h113) call c) h113 fun v_114 h115 =>
gd (wantB v_104 true) (fun c => arb (.of (aBin P .lss 3 (.tmp 20) (.tmp 21) v_112 v_114) h115) call c) h115 fun v_116 h117 =>
arb (pkR v_104 v_116 (.bool false) h117) call fun v_118 h119 =>
cb v_118 (
k95 .normal (upd (upd (upd (upd (upd (upd (upd (upd (upd (upd (upd (upd t 12 v_96) 13 v_98) 14 v_100) 15 v_102) 16 v_104) 17 v_106) 18 v_108) 19 v_110) 20 v_112) 21 v_114) 22 v_116) 23 v_118) h119) (
k95 (.exit 0) (upd (upd (upd (upd (upd (upd (upd (upd (upd (upd (upd (upd t 12 v_96) 13 v_98) 14 v_100) 15 v_102) 16 v_104) 17 v_106) 18 v_108) 19 v_110) 20 v_112) 21 v_114) 22 v_116) 23 v_118) h119)

def J_precentorref9_Put_0 (P : Program) (call : FuncId → List AVal → Heap → Res AVal) (fuel : Nat) (k : Kn (AVal)) (t : T) (h : Heap) : Res (AVal) :=
arb (.val .nils h) call fun out_2 h3 =>
lt (sqK (J_precentorref9_Put_1 P call fuel k) k) fun k67 =>
arb (.val (.int .i64 0) h3) call fun i_68 h69 =>
lt (blkK 0 k67) fun k70 =>
(loopN (L_precentorref9_Put_6 P call fuel) fuel (upd (upd t 5 out_2) 6 i_68) h69).bind (lpK k70)

def S_precentorref9_Put (P : Program) (call : FuncId → List AVal → Heap → Res AVal) (fuel : Nat) (l_a0 n_a1 : AVal) (h : Heap) : Res AVal :=
lt (retK P [.tmp 4]) fun k =>
arb (.val .nils h) call fun v_0 h1 =>
lt (sqK (J_precentorref9_Put_0 P call fuel k) k) fun k120 =>
arb (.val l_a0 h1) call fun v_121 h122 =>
arb (.val n_a1 h122) call fun v_123 h124 =>
arb (.call F_precentorref9_In [v_121, v_123] h124) call fun v_125 h126 =>
cb v_125 (
arb (.val l_a0 h126) call fun v_127 h128 =>
arb (.val v_127 h128) call fun v_129 h130 =>
k120 .ret (upd (upd (upd (upd (upd (upd (enterT [l_a0, n_a1]) 4 v_0) 8 v_121) 9 v_123) 10 v_125) 11 v_127) 4 v_129) h130) (
k120 .normal (upd (upd (upd (upd (enterT [l_a0, n_a1]) 4 v_0) 8 v_121) 9 v_123) 10 v_125) h126)
theorem E_precentorref9_Put (call : FuncId → List AVal → Heap → Res AVal) (fuel : Nat) (l_a0 n_a1 : AVal) (h : Heap) : bodyR Try.prog call fuel Try.f38 [l_a0, n_a1] h = S_precentorref9_Put Try.prog call fuel l_a0 n_a1 h := by kernel_rfl
theorem R_precentorref9_Put {X : XTab} (l_a0 n_a1 : AVal) {h : Heap} {Q : AVal → Heap → Prop} (hx : X F_precentorref9_Put [l_a0, n_a1] = none) (q : Tells (fun m => S_precentorref9_Put Try.prog (acallX Try.prog X m) m l_a0 n_a1 h) Q) :
    Tells (fun m => acallX Try.prog X m F_precentorref9_Put [l_a0, n_a1] h) Q :=
  Tells.later (q.le fun m => (E_precentorref9_Put (acallX Try.prog X m) m l_a0 n_a1 h) ▸ acallX_le Try.func38 hx m h)

/-! ### precentor/precentorref9.In -/
def J_precentorref9_In_0 (P : Program) (call : FuncId → List AVal → Heap → Res AVal) (fuel : Nat) (k : Kn (AVal)) (t : T) (h : Heap) : Res (AVal) :=
arb (.val (.bool false) h) call fun v_2 h3 =>
k .ret (upd t 4 v_2) h3

def J_precentorref9_In_3 (P : Program) (call : FuncId → List AVal → Heap → Res AVal) (fuel : Nat) (k : Kn (Ex × T)) (t : T) (h : Heap) : Res (Ex × T) :=
arb (.val (t 5) h) call fun v_8 h9 =>
arb (.of (aBin P .add 3 (.tmp 10) (.const (.int .i64 1)) v_8 (.int .i64 1)) h9) call fun v_10 h11 =>
arb (.val v_10 h11) call fun i_12 h13 =>
k .normal (upd (upd (upd t 10 v_8) 11 v_10) 5 i_12) h13

def J_precentorref9_In_2 (P : Program) (call : FuncId → List AVal → Heap → Res AVal) (fuel : Nat) (k : Kn (Ex × T)) (t : T) (h : Heap) : Res (Ex × T) :=
lt (sqK (J_precentorref9_In_3 P call fuel k) k) fun k14 =>
lt (blkK 1 k14) fun k15 =>
arb (.val (t 0) h) call fun v_16 h17 =>
arb (.val (t 5) h17) call fun v_18 h19 =>
arb (.of (ixsR 1 v_16 v_18) h19) call fun v_20 h21 =>
arb (.of (ld1 h21 v_20) h21) call fun v_22 h23 =>
arb (.val (t 1) h23) call fun v_24 h25 =>
arb (.of (aBin P .eql 3 (.tmp 15) (.tmp 16) v_22 v_24) h25) call fun v_26 h27 =>
cb v_26 (
arb (.val (.bool true) h27) call fun v_28 h29 =>
k15 .ret (upd (upd (upd (upd (upd (upd (upd t 12 v_16) 13 v_18) 14 v_20) 15 v_22) 16 v_24) 17 v_26) 4 v_28) h29) (
k15 .normal (upd (upd (upd (upd (upd (upd t 12 v_16) 13 v_18) 14 v_20) 15 v_22) 16 v_24) 17 v_26) h27)

def L_precentorref9_In_1 (P : Program) (call : FuncId → List AVal → Heap → Res AVal) (fuel : Nat) (t : T) (h : Heap) : Res (Ex × T) :=
lt okK fun k =>
lt (sqK (J_precentorref9_In_2 P call fuel k) k) fun k30 =>
arb (.val (t 5) h) call fun v_31 h32 =>
arb (.val (t 0) h32) call fun v_33 h34 =>
arb (.of (lenL v_33) h34) call fun v_35 h36 =>
arb (.of (aBin P .lss 3 (.tmp 6) (.tmp 8) v_31 v_35) h36) call fun v_37 h38 =>
cb v_37 (
k30 .normal (upd (upd (upd (upd t 6 v_31) 7 v_33) 8 v_35) 9 v_37) h38) (
k30 (.exit 0) (upd (upd (upd (upd t 6 v_31) 7 v_33) 8 v_35) 9 v_37) h38)

def S_precentorref9_In (P : Program) (call : FuncId → List AVal → Heap → Res AVal) (fuel : Nat) (l_a0 n_a1 : AVal) (h : Heap) : Res AVal :=
lt (retK P [.tmp 4]) fun k =>
arb (.val (.bool false) h) call fun v_0 h1 =>
lt (sqK (J_precentorref9_In_0 P call fuel k) k) fun k4 =>
arb (.val (.int .i64 0) h1) call fun i_5 h6 =>
lt (blkK 0 k4) fun k7 =>
(loopN (L_precentorref9_In_1 P call fuel) fuel (upd (upd (enterT [l_a0, n_a1]) 4 v_0) 5 i_5) h6).bind (lpK k7)
theorem E_precentorref9_In (call : FuncId → List AVal → Heap → Res AVal) (fuel : Nat) (l_a0 n_a1 : AVal) (h : Heap) : bodyR Try.prog call fuel Try.f39 [l_a0, n_a1] h = S_precentorref9_In Try.prog call fuel l_a0 n_a1 h := by kernel_rfl
theorem R_precentorref9_In {X : XTab} (l_a0 n_a1 : AVal) {h : Heap} {Q : AVal → Heap → Prop} (hx : X F_precentorref9_In [l_a0, n_a1] = none) (q : Tells (fun m => S_precentorref9_In Try.prog (acallX Try.prog X m) m l_a0 n_a1 h) Q) :
    Tells (fun m => acallX Try.prog X m F_precentorref9_In [l_a0, n_a1] h) Q :=
  Tells.later (q.le fun m => (E_precentorref9_In (acallX Try.prog X m) m l_a0 n_a1 h) ▸ acallX_le Try.func39 hx m h)


end Go.Proofs.Ytbpbdigehfkjjaa
