/-
  The abstract machine with what follows handed on: for reckoning by hand.
-/
import Derived.Test.YtochkdifpgelmaaABEnd
set_option linter.unusedVariables false
set_option linter.unusedSimpArgs false
namespace Go.Ab

section
variable {β : Type}

def ob (o : Option AVal) (k : AVal → Res β) : Res β := match o with
  | some v => k v
  | none => .fail
def arb (r : AR) (call : FuncId → List AVal → Heap → Res AVal) (k : AVal → Heap → Res β) : Res β := match r with
  | .val v h => k v h
  | .call f args h => (call f args h).bind k
  | .pan v h => .pan v h
  | .fail => .fail
def cb (c : AVal) (x y : Res β) : Res β := match c with
  | .bool true => x
  | .bool false => y
  | _ => .fail

theorem ob_some (v : AVal) (k : AVal → Res β) : ob (some v) k = k v := rfl
theorem cb_true (x y : Res β) : cb (.bool true) x y = x := rfl
theorem cb_false (x y : Res β) : cb (.bool false) x y = y := rfl
theorem cb_bool (b : Bool) (x y : Res β) : cb (.bool b) x y = if b = true then x else y := by cases b <;> rfl
theorem bind_ok (a : AVal) (h : Heap) (k : AVal → Heap → Res β) : (Res.ok a h).bind k = k a h := rfl
theorem bind_ok' {α : Type} (a : α) (h : Heap) (k : α → Heap → Res β) : (Res.ok a h).bind k = k a h := rfl

variable (P : Program) (call : FuncId → List AVal → Heap → Res AVal) (fuel nt : Nat)

def seqK (all : Array Oper) : List Oper → T → Heap → (T → Heap → Res β) → Res β
  | [], t, h, k => k t h
  | o :: rest, t, h, k => match aWanted all t o with
    | some true => arb (aOp P (aEval t) h o) call fun v h' => match putT nt t o.dst v with
      | some t' => seqK all rest t' h' k
      | none => .fail
    | some false => match putT nt t o.dst aUndef with
      | some t' => seqK all rest t' h k
      | none => .fail
    | none => .fail

theorem seqK_eq (all : Array Oper) : ∀ (l : List Oper) (t : T) (h : Heap) (k : T → Heap → Res β), (seqOps P call nt all l t h).bind k = seqK P call nt all l t h k
  | [], t, h, k => rfl
  | o :: rest, t, h, k => by
    simp only [seqOps, seqK]
    cases hw : aWanted all t o with
    | none => rfl
    | some b =>
      cases b with
      | true =>
        simp only [aStep]
        cases ho : aOp P (aEval t) h o with
        | val v h' =>
          simp only [Res.bind, arb]
          cases hp : putT nt t o.dst v with
          | none => rfl
          | some t' => exact seqK_eq all rest t' h' k
        | call f args h' =>
          simp only [arb]
          cases hc : call f args h' with
          | ok v h2 =>
            simp only [Res.bind]
            cases hp : putT nt t o.dst v with
            | none => rfl
            | some t' => exact seqK_eq all rest t' h2 k
          | pan v h2 => rfl
          | fail => rfl
        | pan v h' => rfl
        | fail => rfl
      | false =>
        simp only
        cases hp : putT nt t o.dst aUndef with
        | none => rfl
        | some t' => exact seqK_eq all rest t' h k

def regionK (ops : Array Oper) (draw : Bool) (t : T) (h : Heap) (k : T → Heap → Res β) : Res β := match draw with
  | true => (drawOps P call nt ops (Region.before ops) ops.toList 0 ⟨[], [], []⟩ t h).bind k
  | false => seqK P call nt ops ops.toList t h k

def execK : Code → T → Heap → (Ex → T → Heap → Res β) → Res β
  | .skip, t, h, k => k .normal t h
  | .label _, t, h, k => k .normal t h
  | .region _ ops draw, t, h, k => regionK P call nt ops draw t h fun t h => k .normal t h
  | .seq a b, t, h, k => execK a t h fun ex t h => match ex with
    | .normal => execK b t h k
    | .exit i => k (.exit i) t h
    | .ret => k .ret t h
  | .cond c a b, t, h, k => cb (aEval t c) (execK a t h k) (execK b t h k)
  | .block id b, t, h, k => execK b t h fun ex t h => match ex with
    | .exit i => if i = id then k .normal t h else k (.exit i) t h
    | .normal => k .normal t h
    | .ret => k .ret t h
  | .loop b, t, h, k => (loopN (exec P call fuel nt b) fuel t h).bind fun r h => k r.1 r.2 h
  | .scope b, t, h, k => execK b t h k
  | .exit id, t, h, k => k (.exit id) t h
  | .ret, t, h, k => k .ret t h
  | _, _, _, _ => .fail

theorem execK_eq : ∀ (c : Code) (t : T) (h : Heap) (k : Ex → T → Heap → Res β), (exec P call fuel nt c t h).bind (fun r h => k r.1 r.2 h) = execK P call fuel nt c t h k
  | .skip, t, h, k => rfl
  | .label _, t, h, k => rfl
  | .region _ ops draw, t, h, k => by
    simp only [exec, execK, regionK, region]
    cases draw with
    | true =>
      simp only [if_true]
      cases drawOps P call nt ops (Region.before ops) ops.toList 0 ⟨[], [], []⟩ t h <;> rfl
    | false =>
      simp only [Bool.false_eq_true, if_false]
      rw [← seqK_eq]
      cases seqOps P call nt ops ops.toList t h <;> rfl
  | .seq a b, t, h, k => by
    simp only [exec, execK]
    rw [← execK_eq a]
    cases exec P call fuel nt a t h with
    | ok r h' =>
      obtain ⟨ex, t'⟩ := r
      cases ex with
      | normal => exact execK_eq b t' h' k
      | exit i => rfl
      | ret => rfl
    | pan v h' => rfl
    | fail => rfl
  | .cond c a b, t, h, k => by
    simp only [exec, execK]
    cases hc : aEval t c with
    | bool v => cases v with
      | true => exact execK_eq a t h k
      | false => exact execK_eq b t h k
    | _ => rfl
  | .block id b, t, h, k => by
    simp only [exec, execK]
    rw [← execK_eq b]
    cases exec P call fuel nt b t h with
    | ok r h' =>
      obtain ⟨ex, t'⟩ := r
      cases ex with
      | normal => rfl
      | exit i =>
        simp only [Res.bind]
        by_cases hi : i = id
        · rw [if_pos hi, if_pos hi]
        · rw [if_neg hi, if_neg hi]
      | ret => rfl
    | pan v h' => rfl
    | fail => rfl
  | .loop b, t, h, k => rfl
  | .scope b, t, h, k => execK_eq b t h k
  | .exit id, t, h, k => rfl
  | .ret, t, h, k => rfl
  | .rangeFunc .., t, h, k => rfl
  | .goto _, t, h, k => rfl
  | .refuse _, t, h, k => rfl

theorem exec_K (c : Code) : exec P call fuel nt c = fun t h => execK P call fuel nt c t h fun ex t h => .ok (ex, t) h := by
  funext t h
  rw [← execK_eq]
  cases exec P call fuel nt c t h <;> rfl

def resK (t : T) (h : Heap) : List ResultVar → (List AVal → Res β) → Res β
  | [], k => k []
  | .tmp i :: rs, k => resK t h rs fun l => k (t i :: l)
  | .cell a ty :: rs, k => ob (aLoad P h ty (t a)) fun v => resK t h rs fun l => k (v :: l)

def oneOrTup : List AVal → AVal
  | [v] => v
  | l => .tup l

def bodyK (fn : Func) (args : List AVal) (h : Heap) : Res AVal := match fn.body with
  | none => .fail
  | some c => execK P call fuel (args.length + (fn.ntmps - args.length)) c (enterT args) h fun ex t h => match ex with
    | .exit _ => .fail
    | .normal => resK P t h fn.results.toList fun l => .ok (oneOrTup l) h
    | .ret => resK P t h fn.results.toList fun l => .ok (oneOrTup l) h

theorem resK_eq (t : T) (h : Heap) : ∀ (rs : List ResultVar) (k : List AVal → Res β), (match aResultL P t h rs with | some l => k l | none => .fail) = resK P t h rs k
  | [], k => rfl
  | .tmp i :: rs, k => by
    simp only [aResultL, aResult, resK]
    rw [← resK_eq t h rs]
    cases aResultL P t h rs <;> rfl
  | .cell a ty :: rs, k => by
    simp only [aResultL, aResult, resK]
    cases aLoad P h ty (t a) with
    | none => rfl
    | some v =>
      simp only [ob]
      rw [← resK_eq t h rs]
      cases aResultL P t h rs <;> rfl

theorem bodyK_eq (fn : Func) (args : List AVal) (h : Heap) : body P call fuel fn args h = bodyK P call fuel fn args h := by
  unfold body bodyK
  cases fn.body with
  | none => rfl
  | some c =>
    simp only
    rw [← execK_eq]
    congr 1
    funext r h'
    obtain ⟨ex, t⟩ := r
    have key : (match aResults P fn t h' with | some v => Res.ok v h' | none => .fail) = resK P t h' fn.results.toList fun l => .ok (oneOrTup l) h' := by
      rw [← resK_eq]
      unfold aResults
      cases aResultL P t h' fn.results.toList with
      | none => rfl
      | some l =>
        match l with
        | [] => rfl
        | [v] => rfl
        | v :: u :: r => rfl
    cases ex with
    | exit i => rfl
    | normal => exact key
    | ret => exact key

end

theorem acall_K {P : Program} {f : FuncId} {fn : Func} (hf : P.funcs[f]? = some fn) (hd : defers fn = false) (n : Nat) (args : List AVal) (h : Heap) : acall P (n + 1) f args h = bodyK P (acall P n) n fn args h := by
  simp only [acall, hf, bodyA, hd, Bool.false_eq_true, if_false]
  exact bodyK_eq P (acall P n) n fn args h

end Go.Ab
