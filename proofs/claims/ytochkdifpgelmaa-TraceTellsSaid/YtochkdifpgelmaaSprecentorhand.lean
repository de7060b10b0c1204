/-
  Functions of precentorhand in the form of YtochkdifpgelmaaABS (printed by a program of ours, gen.lean).
-/
import Derived.Test.YtochkdifpgelmaaSIds
set_option linter.unusedVariables false
namespace Go.Proofs.Ytochkdifpgelmaa
open Go.Ab
/-! ### precentor/precentorhand.Pick -/
def J_precentorhand_Pick_1 (P : Program) (call : FuncId → List AVal → Heap → Res AVal) (fuel : Nat) (k : Kn (AVal)) (t : T) (h : Heap) : Res (AVal) :=
arb (.val (t 5) h) call fun v_10 h11 =>
arb (.val v_10 h11) call fun v_12 h13 =>
k .ret (upd (upd t 16 v_10) 4 v_12) h13

def J_precentorhand_Pick_0 (P : Program) (call : FuncId → List AVal → Heap → Res AVal) (fuel : Nat) (k : Kn (AVal)) (t : T) (h : Heap) : Res (AVal) :=
arb (.val (t 0) h) call fun v_2 h3 =>
arb (.val (t 1) h3) call fun v_4 h5 =>
arb (.of (aBin P .rem 3 (.tmp 8) (.tmp 9) v_2 v_4) h5) call fun v_6 h7 =>
arb (.val v_6 h7) call fun k_8 h9 =>
lt (sqK (J_precentorhand_Pick_1 P call fuel k) k) fun k14 =>
arb (.val k_8 h9) call fun v_15 h16 =>
arb (.of (aBin P .lss 3 (.tmp 11) (.const (.int .i64 0)) v_15 (.int .i64 0)) h16) call fun v_17 h18 =>
cb v_17 (
arb (.val k_8 h18) call fun v_19 h20 =>
arb (.val (t 1) h20) call fun v_21 h22 =>
arb (.of (aBin P .add 3 (.tmp 13) (.tmp 14) v_19 v_21) h22) call fun v_23 h24 =>
arb (.val v_23 h24) call fun k_25 h26 =>
k14 .normal (upd (upd (upd (upd (upd (upd (upd (upd (upd (upd t 8 v_2) 9 v_4) 10 v_6) 5 k_8) 11 v_15) 12 v_17) 13 v_19) 14 v_21) 15 v_23) 5 k_25) h26) (
k14 .normal (upd (upd (upd (upd (upd (upd t 8 v_2) 9 v_4) 10 v_6) 5 k_8) 11 v_15) 12 v_17) h18)

def S_precentorhand_Pick (P : Program) (call : FuncId → List AVal → Heap → Res AVal) (fuel : Nat) (n_a0 m_a1 : AVal) (h : Heap) : Res AVal :=
lt (retK P [.tmp 4]) fun k =>
arb (.val (.int .i64 0) h) call fun v_0 h1 =>
lt (sqK (J_precentorhand_Pick_0 P call fuel k) k) fun k27 =>
arb (.val m_a1 h1) call fun v_28 h29 =>
arb (.of (aBin P .lss 3 (.tmp 6) (.const (.int .i64 1)) v_28 (.int .i64 1)) h29) call fun v_30 h31 =>
cb v_30 (
arb (.val (.int .i64 0) h31) call fun v_32 h33 =>
k27 .ret (upd (upd (upd (upd (enterT [n_a0, m_a1]) 4 v_0) 6 v_28) 7 v_30) 4 v_32) h33) (
k27 .normal (upd (upd (upd (enterT [n_a0, m_a1]) 4 v_0) 6 v_28) 7 v_30) h31)
theorem E_precentorhand_Pick (call : FuncId → List AVal → Heap → Res AVal) (fuel : Nat) (n_a0 m_a1 : AVal) (h : Heap) : bodyR Try.prog call fuel Try.f17 [n_a0, m_a1] h = S_precentorhand_Pick Try.prog call fuel n_a0 m_a1 h := by kernel_rfl
theorem R_precentorhand_Pick {X : XTab} (n_a0 m_a1 : AVal) {h : Heap} {Q : AVal → Heap → Prop} (hx : X F_precentorhand_Pick [n_a0, m_a1] = none) (q : Tells (fun m => S_precentorhand_Pick Try.prog (acallX Try.prog X m) m n_a0 m_a1 h) Q) :
    Tells (fun m => acallX Try.prog X m F_precentorhand_Pick [n_a0, m_a1] h) Q :=
  Tells.later (q.le fun m => (E_precentorhand_Pick (acallX Try.prog X m) m n_a0 m_a1 h) ▸ acallX_le Try.func17 hx m h)


end Go.Proofs.Ytochkdifpgelmaa
