/-
  Functions that defer, and what is deferred, reckoned by hand.
-/
import Derived.Test.YtepdlgcoehpnbaaABV
set_option linter.unusedVariables false
set_option linter.unusedSimpArgs false
namespace Go.Ab

def _root_.Go.Code.fst : Code → Code
  | .seq a _ => a
  | .block _ a => a
  | .cond _ a _ => a
  | c => c
def _root_.Go.Code.snd : Code → Code
  | .seq _ b => b
  | .cond _ _ b => b
  | c => c
def codeOf (f : Func) : Code := match f.body with
  | some c => c
  | none => .skip

def GoodD (Vd : AVal → T → List AVal → Heap → Prop) (Qd : Ex → T → List AVal → Heap → Prop) : ResD → Prop
  | .ok ex t ds h => Qd ex t ds h
  | .pan v t ds h => Vd v t ds h
  | .fail => False
/-- The same of a frame that defers. -/
def TellsD (Vd : AVal → T → List AVal → Heap → Prop) (r : Nat → ResD) (Qd : Ex → T → List AVal → Heap → Prop) : Prop := ∃ x, GoodD Vd Qd x ∧ ∃ N, ∀ m, N ≤ m → r m = x

section
variable {P : Program} {X : XTab} {call : Nat → FuncId → List AVal → Heap → Res AVal} {nt : Nat} {V : AVal → Heap → Prop} {Q : AVal → Heap → Prop} {Vd : AVal → T → List AVal → Heap → Prop} {Qd : Ex → T → List AVal → Heap → Prop}
  {t : T} {ds : List AVal} {h : Heap}

/-- Code as it is, by its S-form. -/
theorem TV.exec {c : Code} {Q : Ex × T → Heap → Prop} (k : TellsV V (fun m => execR P (call m) m nt c (Ex × T) t h okK) Q) : TellsV V (fun m => exec P (call m) m nt c t h) Q :=
  TV.le k fun m => by
    rw [exec_K]
    exact execR_le P (call m) m nt c (Ex × T) t h _

theorem TD.plain {c : Code} {Q : Ex × T → Heap → Prop} (hc : topOp isDef c = false) (k : TellsV V (fun m => execR P (call m) m nt c (Ex × T) t h okK) Q) (hq : ∀ ex t' h', Q (ex, t') h' → Qd ex t' ds h') (hv : ∀ v h', V v h' → Vd v (fg c t) ds h') :
    TellsD Vd (fun m => execD P (call m) m nt c t ds h) Qd := by
  obtain ⟨x, q, N, e⟩ := TV.exec k
  have he : ∀ m, execD P (call m) m nt c t ds h = plainD P (call m) m nt c t ds h := by
    intro m
    cases c <;> first | rfl | (simp only [execD, hc, Bool.false_eq_true, if_false])
  cases x with
  | fail => exact q.elim
  | ok r h' =>
    obtain ⟨ex, t'⟩ := r
    exact ⟨.ok ex t' ds h', hq _ _ _ q, N, fun m hm => by have e' := e m hm; dsimp only at e' ⊢; rw [he, plainD, e']⟩
  | pan v h' => exact ⟨.pan v (fg c t) ds h', hv _ _ q, N, fun m hm => by have e' := e m hm; dsimp only at e' ⊢; rw [he, plainD, e']⟩

theorem TD.seq {a b : Code} (hc : topOp isDef (.seq a b) = true) (k : TellsD Vd (fun m => execD P (call m) m nt a t ds h) fun ex t' ds' h' => match ex with
      | .normal => TellsD Vd (fun m => execD P (call m) m nt b t' ds' h') Qd
      | ex => Qd ex t' ds' h') : TellsD Vd (fun m => execD P (call m) m nt (.seq a b) t ds h) Qd := by
  obtain ⟨x, q, N, e⟩ := k
  have he : ∀ m, execD P (call m) m nt (.seq a b) t ds h = match execD P (call m) m nt a t ds h with
      | .ok .normal t' ds' h' => execD P (call m) m nt b t' ds' h'
      | r => r := fun m => by
    simp only [execD, hc, if_true]
    cases execD P (call m) m nt a t ds h with
    | ok ex _ _ _ => cases ex <;> rfl
    | _ => rfl
  cases x with
  | fail => exact q.elim
  | pan v t' ds' h' => exact ⟨.pan v t' ds' h', q, N, fun m hm => by have e' := e m hm; dsimp only at e' ⊢; rw [he, e']⟩
  | ok ex t' ds' h' =>
    cases ex with
    | normal =>
      obtain ⟨y, q2, N2, e2⟩ := q
      exact ⟨y, q2, max N N2, fun m hm => by
        have hm : N ≤ m ∧ N2 ≤ m := Nat.max_le.1 hm
        have e' := e m hm.1
        dsimp only at e' ⊢
        rw [he, e']; exact e2 m hm.2⟩
    | exit i => exact ⟨.ok (.exit i) t' ds' h', q, N, fun m hm => by have e' := e m hm; dsimp only at e' ⊢; rw [he, e']⟩
    | ret => exact ⟨.ok .ret t' ds' h', q, N, fun m hm => by have e' := e m hm; dsimp only at e' ⊢; rw [he, e']⟩

theorem TD.eq {r : Nat → ResD} {ex : Ex} {t' : T} {ds' : List AVal} {h' : Heap} (e : ∀ m, r m = .ok ex t' ds' h') (q : Qd ex t' ds' h') : TellsD Vd r Qd := ⟨.ok ex t' ds' h', q, 0, fun m _ => e m⟩

/-- A function that defers. -/
theorem TV.deferred {f : FuncId} {fn : Func} {c : Code} {args : List AVal} (hf : P.funcs[f]? = some fn) (hx : X f args = none) (hb : fn.body = some c) (hd : defers fn = true)
    (k : TellsD (fun v t ds h' => TellsV V (fun m => leave P (acallX P X m) m fn t ds (.pan v false) h') Q) (fun m => execD P (acallX P X m) m (args.length + (fn.ntmps - args.length)) c (enterT args) [] h) fun ex t ds h' =>
      (ex = .normal ∨ ex = .ret) ∧ TellsV V (fun m => leave P (acallX P X m) m fn t ds .ret h') Q) : TellsV V (fun m => acallX P X m f args h) Q := by
  refine TV.later ?_
  obtain ⟨x, q, N, e⟩ := k
  have he : ∀ m, acallX P X (m + 1) f args h = leaveD P (acallX P X m) m fn (execD P (acallX P X m) m (args.length + (fn.ntmps - args.length)) c (enterT args) [] h) := by
    intro m
    rw [acallX_D hf hx]
    simp only [bodyA, hd, if_true, hb, bodyD]
  cases x with
  | fail => exact q.elim
  | pan v t ds h' =>
    obtain ⟨y, q2, N2, e2⟩ := q
    exact ⟨y, q2, max N N2, fun m hm => by
      have hm : N ≤ m ∧ N2 ≤ m := Nat.max_le.1 hm
      simp only [he, e m hm.1, leaveD]; exact e2 m hm.2⟩
  | ok ex t ds h' =>
    obtain ⟨hex, y, q2, N2, e2⟩ := q
    exact ⟨y, q2, max N N2, fun m hm => by
      have hm : N ≤ m ∧ N2 ≤ m := Nat.max_le.1 hm
      rcases hex with rfl | rfl <;> (simp only [he, e m hm.1, leaveD]; exact e2 m hm.2)⟩

/-- A frame is left, with what it deferred last ahead. -/
theorem TV.leave {fn : Func} {g : FuncId} {a b : List AVal} {u : Mode} {Vm : AVal → Heap → Prop} {Qm : Mode → Heap → Prop} (hg : enters P g = true) (k : TellsV Vm (fun m => dcall P (call m) m g (a ++ b) u h) Qm)
    (hq : ∀ u' h', Qm u' h' → TellsV V (fun m => leave P (call m) m fn t ds u'.settle h') Q) (hv : ∀ v h', Vm v h' → TellsV V (fun m => leave P (call m) m fn t ds (.pan v false) h') Q) :
    TellsV V (fun m => leave P (call m) m fn t (.fn g a b :: ds) u h) Q := by
  obtain ⟨x, q, N, e⟩ := k
  have he : ∀ m, Go.Ab.leave P (call m) m fn t (.fn g a b :: ds) u h = match dcall P (call m) m g (a ++ b) u h with
      | .ok u' h' => Go.Ab.leave P (call m) m fn t ds u'.settle h'
      | .pan v h' => Go.Ab.leave P (call m) m fn t ds (.pan v false) h'
      | .fail => .fail := fun m => by simp only [Go.Ab.leave, hg, if_true]; rfl
  cases x with
  | fail => exact q.elim
  | ok u' h' =>
    obtain ⟨y, q2, N2, e2⟩ := hq _ _ q
    exact ⟨y, q2, max N N2, fun m hm => by
      have hm : N ≤ m ∧ N2 ≤ m := Nat.max_le.1 hm
      simp only [he, e m hm.1]; exact e2 m hm.2⟩
  | pan v h' =>
    obtain ⟨y, q2, N2, e2⟩ := hv _ _ q
    exact ⟨y, q2, max N N2, fun m hm => by
      have hm : N ≤ m ∧ N2 ≤ m := Nat.max_le.1 hm
      simp only [he, e m hm.1]; exact e2 m hm.2⟩

theorem TV.leave_ret {fn : Func} {v : AVal} (e : aResults P fn t h = some v) (q : Q v h) : TellsV V (fun m => Go.Ab.leave P (call m) m fn t [] .ret h) Q :=
  ⟨.ok v h, q, 0, fun m _ => by simp only [Go.Ab.leave, e]⟩
theorem TV.leave_pan {fn : Func} {v : AVal} (q : V v h) : TellsV V (fun m => Go.Ab.leave P (call m) m fn t [] (.pan v false) h) Q := ⟨.pan v h, q, 0, fun m _ => rfl⟩

/-- What is deferred asks for the panic in its first region. -/
theorem TV.dcall {g : FuncId} {fn : Func} {id : Nat} {ops : Array Oper} {y : Code} {args : List AVal} {u u1 : Mode} {t1 : T} {Q : Heap → Prop} (hf : P.funcs[g]? = some fn) (hb : fn.body = some (.seq (.region id ops false) y)) (hr : topOp isRec (.seq (.region id ops false) y) = true)
    (hs : ∀ m, seqOpsS P (call m) (args.length + (fn.ntmps - args.length)) ops ops.toList (enterT args) u h = .ok (t1, u1) h)
    (k : TellsV V (fun m => execR P (call m) m (args.length + (fn.ntmps - args.length)) y (Ex × T) t1 h okK) fun r h2 => (r.1 = .normal ∨ r.1 = .ret) ∧ (∃ v, aResults P fn r.2 h2 = some v) ∧ Q h2) :
    TellsV V (fun m => Go.Ab.dcall P (call m) m g args u h) fun u' h2 => u' = u1 ∧ Q h2 := by
  obtain ⟨x, q, N, e⟩ := TV.exec k
  have he : ∀ m, Go.Ab.dcall P (call m) m g args u h = (Go.Ab.exec P (call m) m (args.length + (fn.ntmps - args.length)) y t1 h).bind fun r h2 => match r with
      | (.exit _, _) => .fail
      | (_, t2) => match aResults P fn t2 h2 with
        | some _ => .ok u1 h2
        | none => .fail := fun m => by
    simp only [Go.Ab.dcall, hf, hb, hr, if_true, execS, hs m, Res.bind]
    cases Go.Ab.exec P (call m) m (args.length + (fn.ntmps - args.length)) y t1 h with
    | ok r h2 =>
      obtain ⟨ex, t2⟩ := r
      cases ex with
      | exit i => rfl
      | normal => dsimp only; cases aResults P fn t2 h2 <;> rfl
      | ret => dsimp only; cases aResults P fn t2 h2 <;> rfl
    | _ => rfl
  cases x with
  | fail => exact q.elim
  | pan v h' => exact ⟨.pan v h', q, N, fun m hm => by simp only [he, e m hm, Res.bind]⟩
  | ok r h' =>
    obtain ⟨ex, t2⟩ := r
    obtain ⟨hex, ⟨v, hv⟩, hq⟩ := q
    exact ⟨.ok u1 h', ⟨rfl, hq⟩, N, fun m hm => by
      simp only at hex hv
      rcases hex with rfl | rfl <;> simp only [he, e m hm, Res.bind, hv]⟩

/-- What is deferred and asks for no panic. -/
theorem TV.dcallP {g : FuncId} {fn : Func} {c : Code} {args : List AVal} {u : Mode} (hf : P.funcs[g]? = some fn) (hb : fn.body = some c) (hr : topOp isRec c = false) (k : TellsV V (fun m => bodyR P (call m) m fn args h) Q) :
    TellsV V (fun m => Go.Ab.dcall P (call m) m g args u h) fun u' h2 => u' = u ∧ ∃ a, Q a h2 := by
  obtain ⟨x, q, N, e⟩ := TV.le k fun m => bodyR_le P (call m) m fn args h
  have he : ∀ m, Go.Ab.dcall P (call m) m g args u h = (body P (call m) m fn args h).bind fun _ h' => .ok u h' := fun m => by
    simp only [Go.Ab.dcall, hf, hb, hr, Bool.false_eq_true, if_false]
  cases x with
  | fail => exact q.elim
  | pan v h' => exact ⟨.pan v h', q, N, fun m hm => by simp only [he, e m hm, Res.bind]⟩
  | ok a h' => exact ⟨.ok u h', ⟨rfl, a, q⟩, N, fun m hm => by simp only [he, e m hm, Res.bind]⟩

end
end Go.Ab
