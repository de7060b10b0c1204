/-
  The abstract machine: functions that defer, and recover.
-/
import Derived.Test.YtochkdifpgelmaaABRun
import Derived.Defers
import Derived.Recover
set_option linter.unusedVariables false
set_option linter.unusedSimpArgs false
namespace Go.Ab

section
variable {n0 nt : Nat} {w0 : World} {P : Program}

/-- What is deferred, as the model holds it. -/
inductive DsR (n0 : Nat) (ρ : Ren) : List AVal → List Deferred → Prop
  | nil : DsR n0 ρ [] []
  | cons {g : FuncId} {a b : List AVal} {a' b' : List Value} {ds : List AVal} {dm : List Deferred} (ha : VRs n0 ρ a a') (hb : VRs n0 ρ b b') (r : DsR n0 ρ ds dm) :
    DsR n0 ρ (.fn g a b :: ds) ({ target := .fn (.func g) b'.toArray, args := a'.toArray } :: dm)

theorem DsR.mono {ρ ρ' : Ren} (hle : ρ.le ρ') : ∀ {ds : List AVal} {dm : List Deferred}, DsR n0 ρ ds dm → DsR n0 ρ' ds dm
  | _, _, .nil => .nil
  | _, _, .cons ha hb r => .cons (ha.mono hle) (hb.mono hle) (r.mono hle)

def MR (n0 : Nat) (ρ : Ren) : Mode → FrameMode → Prop
  | .ret, um => um = .returning
  | .pan v r, um => ∃ v' older, um = .panicking ({ v := v', recovered := r } :: older) ∧ (∀ x ∈ older, x.goexit = false) ∧ VR n0 ρ v v'

theorem MR.mono {ρ ρ' : Ren} (hle : ρ.le ρ') {u : Mode} {um : FrameMode} (k : MR n0 ρ u um) : MR n0 ρ' u um := by
  cases u with
  | ret => exact k
  | pan v r => obtain ⟨v', o, e, h1, h2⟩ := k; exact ⟨v', o, e, h1, h2.mono hle⟩

theorem PR.mode {ρ : Ren} {v : AVal} {ch : List PanicEntry} (k : PR n0 ρ v ch) : MR n0 ρ (.pan v false) (.panicking ch) := by
  obtain ⟨v', o, rfl, h1, h2⟩ := k; exact ⟨v', o, rfl, h1, h2⟩

/-- No Goexit is in it. -/
def MG (um : FrameMode) : Prop := um ≠ .run ∧ ∀ old, um = .panicking old → ∀ x ∈ old, x.goexit = false

theorem MR.mg {ρ : Ren} {u : Mode} {um : FrameMode} (k : MR n0 ρ u um) : MG um := by
  cases u with
  | ret => cases k; exact ⟨by simp, fun old q => by cases q⟩
  | pan v r =>
    obtain ⟨v', o, rfl, h1, h2⟩ := k
    refine ⟨by simp, fun old q x hx => ?_⟩
    cases q
    rcases List.mem_cons.1 hx with rfl | hx
    · rfl
    · exact h1 x hx

theorem PR.raise {ρ : Ren} {v : AVal} {ch : List PanicEntry} (k : PR n0 ρ v ch) {um : FrameMode} (g : MG um) : MR n0 ρ (.pan v false) (raised um ch) := by
  obtain ⟨v', o, rfl, h1, h2⟩ := k
  cases um with
  | run => exact absurd rfl g.1
  | returning => exact ⟨v', o, rfl, h1, h2⟩
  | panicking old =>
    refine ⟨v', o ++ old, rfl, fun x hx => ?_, h2⟩
    rcases List.mem_append.1 hx with q | q
    · exact h1 x q
    · exact g.2 old rfl x q

theorem MR.settle {ρ : Ren} {u : Mode} {um : FrameMode} (k : MR n0 ρ u um) : MR n0 ρ u.settle (settle um) := by
  cases u with
  | ret => cases k; rfl
  | pan v r =>
    obtain ⟨v', o, rfl, h1, h2⟩ := k
    cases r with
    | false => exact ⟨v', o, rfl, h1, h2⟩
    | true =>
      show Go.settle _ = FrameMode.returning
      have : o.dropWhile (!·.goexit) = [] := by
        clear h2
        induction o with
        | nil => rfl
        | cons x r ih =>
          rw [List.dropWhile_cons, if_pos (by rw [h1 x (by simp)]; rfl)]
          exact ih fun y hy => h1 y (by simp [hy])
      simp only [Go.settle, this]

/-! ### Code that defers -/

def DPost (n0 : Nat) (w0 : World) (nt : Nat) (ρ : Ren) (h : Heap) (w : World) (r : ResD) (e : Exit) (a' : Act) (w' : World) : Prop :=
  match r with
  | .ok ex t' ds h' => e = toExit ex ∧ ∃ ρ', RT n0 ρ' nt t' a'.tmps ∧ DsR n0 ρ' ds a'.defers ∧ HR n0 w0 ρ' h' w' ∧ St n0 ρ h w ρ' h' w'
  | .pan v t' ds h' => ∃ ρ' ch, e = .panic ch ∧ PR n0 ρ' v ch ∧ RT n0 ρ' nt t' a'.tmps ∧ DsR n0 ρ' ds a'.defers ∧ HR n0 w0 ρ' h' w' ∧ St n0 ρ h w ρ' h' w'
  | .fail => False

theorem DPost.lift {ρ ρ1 : Ren} {h h1 : Heap} {w w1 : World} {r : ResD} (S : St n0 ρ h w ρ1 h1 w1) {e : Exit} {a' : Act} {w' : World} (k : DPost n0 w0 nt ρ1 h1 w1 r e a' w') : DPost n0 w0 nt ρ h w r e a' w' := by
  cases r with
  | ok ex t' ds h' => obtain ⟨a, ρ', b, c, d, f⟩ := k; exact ⟨a, ρ', b, c, d, S.trans f⟩
  | pan v t' ds h' => obtain ⟨ρ', ch, a, b, c, d, f, g⟩ := k; exact ⟨ρ', ch, a, b, c, d, f, S.trans g⟩
  | fail => exact k

def ResD.nxt : ResD → Nat
  | .ok _ _ _ h => h.next
  | .pan _ _ _ h => h.next
  | .fail => 0
def ResD.bas : ResD → Nat
  | .ok _ _ _ h => h.n0
  | .pan _ _ _ h => h.n0
  | .fail => 0
def ResD.clf : ResD → Nat → Option Nat
  | .ok _ _ _ h => h.cls
  | .pan _ _ _ h => h.cls
  | .fail => fun _ => none
abbrev GrD (h : Heap) (r : ResD) : Prop := GrX h r.nxt r.bas r.clf
theorem Gr.resD {a b : Heap} {r : ResD} (h : Gr a b) (k : GrD b r) : GrD a r := ⟨Nat.le_trans h.1 k.1, k.2.trans h.2, fun x hx => (k.3 x (Nat.lt_of_lt_of_le hx h.1)).trans (h.3 x hx)⟩

def CodeOkD (P : Program) (n0 : Nat) (w0 : World) (nt : Nat) (c : Code) (f : T → List AVal → Heap → ResD) : Prop :=
  ∀ t ds h, f t ds h ≠ .fail → GrD h (f t ds h) ∧ ∀ ρ a w, RT n0 ρ nt t a.tmps → DsR n0 ρ ds a.defers → HR n0 w0 ρ h w → Fr ρ h.next (f t ds h).nxt → c.wp P (DPost n0 w0 nt ρ h w (f t ds h)) a w

theorem plainD_ok (hm : P.follows .mixedOrders = true) {call : FuncId → List AVal → Heap → Res AVal} (hc : CallOk P n0 w0 call) (fuel : Nat) {c : Code} (hs : codeSlots c = true) : CodeOkD P n0 w0 nt c (plainD P call fuel nt c) := by
  intro t ds h hne
  unfold plainD at hne ⊢
  have hfne : exec P call fuel nt c t h ≠ .fail := fun q => hne (by rw [q])
  obtain ⟨n1, _, k1⟩ := exec_ok (nt := nt) hm hc fuel c hs t h hfne
  cases hr : exec P call fuel nt c t h with
  | fail => exact absurd hr hfne
  | ok p h1 =>
    obtain ⟨ex, t1⟩ := p
    rw [hr] at n1 k1
    refine ⟨n1, fun ρ a w hT hD H hf => wp_mono (k1 ρ a w hT H hf _ (fg_ok c t)) fun e a' w' k => ?_⟩
    obtain ⟨rfl, hd, ρ', hT', H', S⟩ := k
    exact ⟨rfl, ρ', hT', hd ▸ hD.mono S.le, H', S⟩
  | pan v h1 =>
    rw [hr] at n1 k1
    refine ⟨n1, fun ρ a w hT hD H hf => wp_mono (k1 ρ a w hT H hf _ (fg_ok c t)) fun e a' w' k => ?_⟩
    obtain ⟨hd, ρ', ch, rfl, hp, hT', H', S⟩ := k
    exact ⟨ρ', ch, rfl, hp, hT', hd ▸ hD.mono S.le, H', S⟩


variable {call : FuncId → List AVal → Heap → Res AVal}

theorem seqOpsD_plain {all : Array Oper} {o : Oper} (hd : isDef o = false) (rest : List Oper) (t : T) (ds : List AVal) (h : Heap) :
    seqOpsD P call nt all (o :: rest) t ds h = match aWanted all t o with
      | some true => (match aStep P call t h o with
        | .ok v h' => match putT nt t o.dst v with
          | some t' => seqOpsD P call nt all rest t' ds h'
          | none => .fail
        | .pan v h' => .pan v t ds h'
        | .fail => .fail)
      | some false => match putT nt t o.dst aUndef with
        | some t' => seqOpsD P call nt all rest t' ds h
        | none => .fail
      | none => .fail := by
  simp only [seqOpsD]
  unfold isDef at hd
  revert hd
  generalize o.op = q
  cases q <;> first | (intro _; rfl) | (intro hd; cases hd)

/-- What an operation that defers tells. -/
theorem seqOpsD_def {all : Array Oper} {o : Oper} (hd : isDef o = true) {rest : List Oper} {t : T} {ds : List AVal} {h : Heap} (hne : seqOpsD P call nt all (o :: rest) t ds h ≠ .fail) (hw : aWanted all t o = some true) :
    ∃ c f g a b t', o.op = .defer c ∧ c.callee = .value f ∧ c.args.toList = [] ∧ aEval t f = .fn g a b ∧ enters P g = true ∧ putT nt t o.dst aUndef = some t' ∧
      seqOpsD P call nt all (o :: rest) t ds h = seqOpsD P call nt all rest t' (.fn g a b :: ds) h := by
  simp only [seqOpsD, hw] at hne ⊢
  unfold isDef at hd
  split at hne
  · rename_i c hop
    split at hne
    · rename_i f hc ha
      split at hne
      · rename_i g a b he
        split at hne
        · rename_i hen
          split at hne
          · rename_i t' hp
            refine ⟨c, f, g, a, b, t', hop, hc, ha, he, hen, hp, ?_⟩
            simp only [hop, hc, ha, he, hen, hp, if_true]
          · exact absurd rfl hne
        · exact absurd rfl hne
      · exact absurd rfl hne
    · exact absurd rfl hne
  · rename_i hop
    exfalso
    split at hd
    · rename_i c hc; exact hop c hc
    · cases hd

theorem seqD_next (hc : CallOk P n0 w0 call) {all : Array Oper} : ∀ (l : List Oper) (t : T) (ds : List AVal) (h : Heap), seqOpsD P call nt all l t ds h ≠ .fail → GrD h (seqOpsD P call nt all l t ds h)
  | [], t, ds, h, _ => Gr.refl _
  | o :: rest, t, ds, h, hne => by
    have skip : ∀ {t' : T}, aWanted all t o = some false → putT nt t o.dst aUndef = some t' → seqOpsD P call nt all (o :: rest) t ds h = seqOpsD P call nt all rest t' ds h := by
      intro t' hw hp; simp only [seqOpsD, hw, hp]
    cases ew : aWanted all t o with
    | none => simp only [seqOpsD, ew] at hne; exact absurd rfl hne
    | some b =>
      cases b with
      | false =>
        cases et : putT nt t o.dst aUndef with
        | some t' => rw [skip ew et] at hne ⊢; exact seqD_next hc rest t' ds h hne
        | none => simp only [seqOpsD, ew, et] at hne; exact absurd rfl hne
      | true =>
        cases hd : isDef o with
        | true =>
          obtain ⟨c, f, g, a, b, t', _, _, _, _, _, _, he⟩ := seqOpsD_def hd hne ew
          rw [he] at hne ⊢
          exact seqD_next hc rest t' _ h hne
        | false =>
          rw [seqOpsD_plain hd, ew] at hne ⊢
          dsimp only at hne ⊢
          cases es : aStep P call t h o with
          | ok v h' =>
            rw [es] at hne
            dsimp only at hne ⊢
            have h1 : Gr h h' := by have := step_next hc (t := t) (h := h) (o := o) (by rw [es]; simp); rwa [es] at this
            cases et : putT nt t o.dst v with
            | some t' =>
              rw [et] at hne
              exact h1.resD (seqD_next hc rest t' ds h' hne)
            | none => rw [et] at hne; exact absurd rfl hne
          | pan v h' =>
            have := step_next hc (t := t) (h := h) (o := o) (by rw [es]; simp)
            rwa [es] at this
          | fail => rw [es] at hne; exact absurd rfl hne

theorem seqOpsD_ok (hc : CallOk P n0 w0 call) {ops : Array Oper} : ∀ (l : List Oper) (k : Nat) (t : T) (ds : List AVal) (h : Heap) (ρ : Ren) (a : Act) (w : World), (∀ j, l[j]? = ops[k + j]?) →
    seqOpsD P call nt ops l t ds h ≠ .fail → RT n0 ρ nt t a.tmps → DsR n0 ρ ds a.defers → HR n0 w0 ρ h w → Fr ρ h.next (seqOpsD P call nt ops l t ds h).nxt →
    wpOps P ops (DPost n0 w0 nt ρ h w (seqOpsD P call nt ops l t ds h)) (List.range' k l.length) a w
  | [], k, t, ds, h, ρ, a, w, _, _, hT, hD, H, _ => by
    simp only [List.length_nil, List.range'_zero, wpOps, seqOpsD, DPost]
    exact ⟨by trivial, ρ, hT, hD, H, St.refl⟩
  | o :: rest, k, t, ds, h, ρ, a, w, hl, hne, hT, hD, H, hf => by
    have ho : ops[k]? = some o := by simpa using (hl 0).symm
    have hl' : ∀ j, rest[j]? = ops[k + 1 + j]? := fun j => by have := hl (j + 1); simpa [Nat.add_assoc, Nat.add_comm 1 j] using this
    simp only [List.length_cons, List.range'_succ, wpOps, ho]
    cases ew : aWanted ops t o with
    | none => simp only [seqOpsD, ew] at hne; exact absurd rfl hne
    | some b =>
      rw [wanted_ok hT ew]
      cases b with
      | false =>
        rw [if_neg Bool.false_ne_true]
        cases et : putT nt t o.dst aUndef with
        | none => simp only [seqOpsD, ew, et] at hne; exact absurd rfl hne
        | some t' =>
          have he : seqOpsD P call nt ops (o :: rest) t ds h = seqOpsD P call nt ops rest t' ds h := by simp only [seqOpsD, ew, et]
          rw [he] at hne hf ⊢
          exact seqOpsD_ok hc rest (k + 1) t' ds h ρ (a.put o.dst undef) w hl' hne (hT.put et VR.undef) (by rw [put_defers]; exact hD) H hf
      | true =>
        rw [if_pos rfl]
        left
        cases hd : isDef o with
        | true =>
          obtain ⟨c, f, g, x, y, t', hop, hcal, harg, hev, hen, hput, he⟩ := seqOpsD_def hd hne ew
          rw [he] at hne hf ⊢
          have hx := hT.eval f
          rw [hev] at hx
          cases hf2 : a.eval f with
          | func fn fi ca =>
            rw [hf2] at hx
            cases hx with
            | fn h1 h2 =>
              rename_i x' y'
              have hrun : (execOp a.eval o).run P w = .ok (.defer { target := .fn (.func g) y'.toArray, args := x'.toArray }) w := by
                have : c.args.map a.eval = #[] := by apply Array.ext'; simp [harg]
                simp only [execOp, hop, resolve, hcal, hf2, this, Deferred.ofValue, Sem.run_bind, Sem.run_pure, Result.andThen_ok, Array.append_empty]
              unfold Oper.wp
              rw [hrun, Oper.upon_defer]
              refine seqOpsD_ok hc rest (k + 1) t' _ h ρ _ w hl' hne ?_ ?_ H hf
              · exact RT.put (a := { a with defers := { target := .fn (.func g) y'.toArray, args := x'.toArray } :: a.defers }) hT hput VR.undef
              · rw [put_defers]; exact .cons h1 h2 hD
          | _ => rw [hf2] at hx; cases hx
        | false =>
          rw [seqOpsD_plain hd, ew] at hne hf ⊢
          dsimp only at hne hf ⊢
          have hsne : aStep P call t h o ≠ .fail := fun q => by rw [q] at hne; exact hne rfl
          refine step_ok hc hT H hsne ?_ ?_ ?_
          · cases es : aStep P call t h o with
            | ok v h' =>
              rw [es] at hne hf
              dsimp only at hne hf
              split at hne
              · rename_i t' et
                simp only [et] at hf
                exact hf.sub (Nat.le_refl _) (seqD_next hc rest t' ds h' hne).1
              · exact absurd rfl hne
            | pan v h' => rw [es] at hf; exact hf
            | fail => exact absurd es hsne
          · intro v h' es ρ' v' w' hv H' S
            rw [es] at hne hf ⊢
            dsimp only at hne hf ⊢
            split at hne
            · rename_i t' et
              simp only [et] at hf ⊢
              have hih := seqOpsD_ok hc rest (k + 1) t' ds h' ρ' (a.put o.dst v') w' hl' hne ((hT.mono S.le).put et hv) (by rw [put_defers]; exact hD.mono S.le) H' (Fr.step S hf)
              exact wpOps_monoQ (fun e a w k => DPost.lift S k) _ _ _ hih
            · exact absurd rfl hne
          · intro v h' es ρ' ch w' hv H' S
            rw [es]
            exact ⟨ρ', ch, rfl, hv, hT.mono S.le, hD.mono S.le, H', S⟩

theorem execD_ok (hm : P.follows .mixedOrders = true) (hc : CallOk P n0 w0 call) (fuel : Nat) : ∀ c : Code, codeSlots c = true → CodeOkD P n0 w0 nt c (execD P call fuel nt c)
  | .seq x y => fun hs => by
    have pl := plainD_ok (nt := nt) hm hc fuel hs
    simp only [codeSlots, Bool.and_eq_true] at hs
    intro t ds h hne
    simp only [execD] at hne ⊢
    split at hne
    · rename_i htop
      simp only [htop, if_true]
      have hfne : execD P call fuel nt x t ds h ≠ .fail := fun q => hne (by rw [q])
      obtain ⟨n1, k1⟩ := execD_ok hm hc fuel x hs.1 t ds h hfne
      cases hr : execD P call fuel nt x t ds h with
      | fail => exact absurd hr hfne
      | pan v t1 ds1 h1 =>
        rw [hr] at hne n1 k1
        refine ⟨n1, fun ρ a w hT hD H hf => wp_seq (wp_mono (k1 ρ a w hT hD H hf) fun e a' w' k => ?_)⟩
        obtain ⟨ρ', ch, rfl, q⟩ := k
        exact ⟨ρ', ch, rfl, q⟩
      | ok ex t1 ds1 h1 =>
        rw [hr] at hne n1 k1
        cases ex with
        | normal =>
          dsimp only at hne ⊢
          obtain ⟨n2, k2⟩ := execD_ok hm hc fuel y hs.2 t1 ds1 h1 hne
          refine ⟨Gr.resD n1 n2, fun ρ a w hT hD H hf => wp_seq (wp_mono (k1 ρ a w hT hD H (hf.sub (Nat.le_refl _) n2.1)) fun e a' w' k => ?_)⟩
          obtain ⟨rfl, ρ', hT', hD', H', S⟩ := k
          exact wp_mono (k2 ρ' a' w' hT' hD' H' (Fr.step S hf)) fun e a2 w2 q => DPost.lift S q
        | exit id =>
          refine ⟨n1, fun ρ a w hT hD H hf => wp_seq (wp_mono (k1 ρ a w hT hD H hf) fun e a' w' k => ?_)⟩
          obtain ⟨rfl, q⟩ := k
          exact ⟨rfl, q⟩
        | ret =>
          refine ⟨n1, fun ρ a w hT hD H hf => wp_seq (wp_mono (k1 ρ a w hT hD H hf) fun e a' w' k => ?_)⟩
          obtain ⟨rfl, q⟩ := k
          exact ⟨rfl, q⟩
    · rename_i htop
      rw [if_neg htop]
      exact pl t ds h hne
  | .region id ops draw => fun hs => by
    intro t ds h hne
    simp only [execD] at hne ⊢
    split at hne
    · rename_i htop
      simp only [htop, if_true]
      cases draw with
      | true => exact absurd rfl hne
      | false =>
        simp only [Bool.false_eq_true, if_false] at hne ⊢
        refine ⟨seqD_next hc _ _ _ _ hne, fun ρ a w hT hD H hf => ?_⟩
        have hs := seqOpsD_ok hc ops.toList 0 t ds h ρ a w (fun j => by simp) hne hT hD H hf
        rw [Array.length_toList, ← List.range_eq_range'] at hs
        exact wp_region hs
    · rename_i htop
      rw [if_neg htop]
      exact plainD_ok (nt := nt) hm hc fuel hs t ds h hne
  | .skip => fun hs => plainD_ok hm hc fuel hs
  | .label _ => fun hs => plainD_ok hm hc fuel hs
  | .cond .. => fun hs => plainD_ok hm hc fuel hs
  | .block .. => fun hs => plainD_ok hm hc fuel hs
  | .loop _ => fun hs => plainD_ok hm hc fuel hs
  | .scope _ => fun hs => plainD_ok hm hc fuel hs
  | .exit _ => fun hs => plainD_ok hm hc fuel hs
  | .ret => fun hs => plainD_ok hm hc fuel hs
  | .rangeFunc .. => fun hs => plainD_ok hm hc fuel hs
  | .goto _ => fun hs => plainD_ok hm hc fuel hs
  | .refuse _ => fun hs => plainD_ok hm hc fuel hs


/-! ### What is deferred -/

def SPost (n0 : Nat) (w0 : World) (nt : Nat) (c₀ : Frame) (cs : List Frame) (ρ : Ren) (h : Heap) (w : World) (df : List Deferred) (r : Res (T × Mode)) (e : Exit) (a' : Act) (cs' : List Frame) (w' : World) : Prop :=
  match r with
  | .ok (t', u') h' => e = .normal ∧ a'.defers = df ∧ ∃ ρ' um, cs' = { c₀ with mode := um } :: cs ∧ MR n0 ρ' u' um ∧ RT n0 ρ' nt t' a'.tmps ∧ HR n0 w0 ρ' h' w' ∧ St n0 ρ h w ρ' h' w'
  | .pan v h' => a'.defers = df ∧ ∃ ρ' um ch, cs' = { c₀ with mode := um } :: cs ∧ e = .panic ch ∧ PR n0 ρ' v ch ∧ MG um ∧ HR n0 w0 ρ' h' w' ∧ St n0 ρ h w ρ' h' w'
  | .fail => False

theorem SPost.lift {c₀ : Frame} {cs : List Frame} {ρ ρ1 : Ren} {h h1 : Heap} {w w1 : World} {df : List Deferred} {r : Res (T × Mode)} (S : St n0 ρ h w ρ1 h1 w1) {e : Exit} {a' : Act} {cs' : List Frame} {w' : World}
    (k : SPost n0 w0 nt c₀ cs ρ1 h1 w1 df r e a' cs' w') : SPost n0 w0 nt c₀ cs ρ h w df r e a' cs' w' := by
  cases r with
  | ok p h' => obtain ⟨t, u⟩ := p; obtain ⟨a, b, ρ', um, c, d, e, f, g⟩ := k; exact ⟨a, b, ρ', um, c, d, e, f, S.trans g⟩
  | pan v h' => obtain ⟨a, ρ', um, ch, c, d, e, f, g, l⟩ := k; exact ⟨a, ρ', um, ch, c, d, e, f, g, S.trans l⟩
  | fail => exact k

theorem wpOpsS_mono {ops : Array Oper} {Q Q' : Exit → Act → List Frame → World → Prop} (hQ : ∀ e a cs w, Q e a cs w → Q' e a cs w) : ∀ (l : List Nat) (a : Act) (cs : List Frame) (w : World), wpOpsS P ops Q l a cs w → wpOpsS P ops Q' l a cs w
  | [], a, cs, w, h => hQ _ _ _ _ h
  | i :: rest, a, cs, w, h => by
    simp only [wpOpsS] at h ⊢
    split
    · rename_i e; rw [e] at h; exact wpOpsS_mono hQ rest a cs w h
    · rename_i o e
      rw [e] at h
      simp only at h
      split
      · rename_i hw
        rw [if_pos hw] at h
        split
        · rename_i w' hr
          rw [hr] at h
          simp only at h
          split
          · rename_i v cs' hv; rw [hv] at h; exact wpOpsS_mono hQ rest _ _ _ h
          · rename_i hv; rw [hv] at h; exact wpOpsS_mono hQ rest _ _ _ h
        · rename_i hno
          have : o.upon P a (fun a' w' => wpOpsS P ops Q rest a' cs w') (fun e a' w' => Q e a' cs w') ((execOp a.eval o).run P w) := by
            split at h
            · rename_i w' hr; exact absurd hr (hno w')
            · exact h
          exact upon_monoQ (fun a w => wpOpsS_mono hQ rest a cs w) (fun e a w => hQ e a cs w) this
      · rename_i hw
        rw [if_neg hw] at h
        exact wpOpsS_mono hQ rest _ _ _ h

theorem run_rec {o : Oper} (hd : isRec o = true) (e : Operand → Value) (w : World) : (execOp e o).run P w = .ok .recover w := by
  unfold isRec at hd
  split at hd
  · rename_i c hop
    split at hd
    · rename_i hc
      simp only [execOp, hop, resolve, hc, Sem.run_bind, Sem.run_pure, Result.andThen_ok, invoke, builtin]
    · cases hd
  · cases hd

/-- An operation that does not ask for a panic, in what is deferred. -/
theorem wpOpsS_op {ops : Array Oper} {Q : Exit → Act → List Frame → World → Prop} {i : Nat} {o : Oper} {rest : List Nat} {a : Act} {cs : List Frame} {w : World} (ho : ops[i]? = some o) (hw : Region.wanted o (yielded ops a.tmps) = true)
    (h : o.wp P a w (fun a' w' => wpOpsS P ops Q rest a' cs w') fun e a' w' => Q e a' cs w') : wpOpsS P ops Q (i :: rest) a cs w := by
  simp only [wpOpsS, ho, if_pos hw]
  unfold Oper.wp at h
  split
  · rename_i w' hr
    rw [hr] at h
    exact h.elim
  · exact h

theorem seqS_next (hc : CallOk P n0 w0 call) {all : Array Oper} : ∀ (l : List Oper) (t : T) (u : Mode) (h : Heap), seqOpsS P call nt all l t u h ≠ .fail → GrR h (seqOpsS P call nt all l t u h)
  | [], t, u, h, _ => Gr.refl _
  | o :: rest, t, u, h, hne => by
    simp only [seqOpsS] at hne ⊢
    cases ew : aWanted all t o with
    | none => rw [ew] at hne; exact absurd rfl hne
    | some b =>
      rw [ew] at hne
      cases b with
      | false =>
        dsimp only at hne ⊢
        cases et : putT nt t o.dst aUndef with
        | some t' => rw [et] at hne; exact seqS_next hc rest t' u h hne
        | none => rw [et] at hne; exact absurd rfl hne
      | true =>
        dsimp only at hne ⊢
        split at hne
        · rename_i hd
          rw [if_pos hd]
          split at hne
          · rename_i v
            cases et : putT nt t o.dst v with
            | some t' => rw [et] at hne; exact seqS_next hc rest t' _ h hne
            | none => rw [et] at hne; exact absurd rfl hne
          · rename_i u hu
            cases et : putT nt t o.dst .nili with
            | some t' => rw [et] at hne; exact seqS_next hc rest t' _ h hne
            | none => rw [et] at hne; exact absurd rfl hne
        · rename_i hd
          rw [if_neg hd]
          cases es : aStep P call t h o with
          | ok v h' =>
            rw [es] at hne
            dsimp only at hne ⊢
            have h1 : Gr h h' := by have := step_next hc (t := t) (h := h) (o := o) (by rw [es]; simp); rwa [es] at this
            cases et : putT nt t o.dst v with
            | some t' =>
              rw [et] at hne
              exact h1.res (seqS_next hc rest t' u h' hne)
            | none => rw [et] at hne; exact absurd rfl hne
          | pan v h' =>
            have := step_next hc (t := t) (h := h) (o := o) (by rw [es]; simp)
            rwa [es] at this
          | fail => rw [es] at hne; exact absurd rfl hne


theorem recD_ret {ρ : Ren} {c₀ : Frame} {cs : List Frame} {u : Mode} {um : FrameMode} (k : MR n0 ρ u um) (hu : ∀ v, u ≠ .pan v false) : recoverD ({ c₀ with mode := um } :: cs) = none := by
  cases u with
  | ret => cases k; rfl
  | pan v r =>
    cases r with
    | false => exact absurd rfl (hu v)
    | true => obtain ⟨v', o, rfl, _, _⟩ := k; rfl

theorem seqOpsS_ok (hc : CallOk P n0 w0 call) {ops : Array Oper} {c₀ : Frame} {cs : List Frame} : ∀ (l : List Oper) (k : Nat) (t : T) (u : Mode) (h : Heap) (ρ : Ren) (a : Act) (w : World) (um : FrameMode), (∀ j, l[j]? = ops[k + j]?) →
    seqOpsS P call nt ops l t u h ≠ .fail → RT n0 ρ nt t a.tmps → MR n0 ρ u um → HR n0 w0 ρ h w → Fr ρ h.next (seqOpsS P call nt ops l t u h).nxt →
    wpOpsS P ops (SPost n0 w0 nt c₀ cs ρ h w a.defers (seqOpsS P call nt ops l t u h)) (List.range' k l.length) a ({ c₀ with mode := um } :: cs) w
  | [], k, t, u, h, ρ, a, w, um, _, _, hT, hM, H, _ => by
    simp only [List.length_nil, List.range'_zero, wpOpsS, seqOpsS, SPost]
    exact ⟨by trivial, by trivial, ρ, um, rfl, hM, hT, H, St.refl⟩
  | o :: rest, k, t, u, h, ρ, a, w, um, hl, hne, hT, hM, H, hf => by
    have ho : ops[k]? = some o := by simpa using (hl 0).symm
    have hl' : ∀ j, rest[j]? = ops[k + 1 + j]? := fun j => by have := hl (j + 1); simpa [Nat.add_assoc, Nat.add_comm 1 j] using this
    simp only [List.length_cons, List.range'_succ]
    simp only [seqOpsS] at hne hf ⊢
    cases ew : aWanted ops t o with
    | none => rw [ew] at hne; exact absurd rfl hne
    | some b =>
      rw [ew] at hne hf
      have hw := wanted_ok hT ew
      cases b with
      | false =>
        dsimp only at hne hf ⊢
        simp only [wpOpsS, ho, hw, Bool.false_eq_true, if_false]
        cases et : putT nt t o.dst aUndef with
        | none => rw [et] at hne; exact absurd rfl hne
        | some t' =>
          rw [et] at hne hf
          have := seqOpsS_ok hc (c₀ := c₀) (cs := cs) rest (k + 1) t' u h ρ (a.put o.dst undef) w um hl' hne (hT.put et VR.undef) hM H hf
          rw [put_defers] at this
          exact this
      | true =>
        dsimp only at hne hf ⊢
        cases hd : isRec o with
        | true =>
          rw [hd] at hne hf
          simp only [if_true] at hne hf ⊢
          simp only [wpOpsS, ho, hw, if_true, run_rec hd]
          have other : (∀ v, u ≠ .pan v false) → ∀ {t' : T}, putT nt t o.dst .nili = some t' → seqOpsS P call nt ops rest t' u h ≠ .fail → Fr ρ h.next (seqOpsS P call nt ops rest t' u h).nxt →
              (match recoverD ({ c₀ with mode := um } :: cs) with
              | some (v, cs') => wpOpsS P ops (SPost n0 w0 nt c₀ cs ρ h w a.defers (seqOpsS P call nt ops rest t' u h)) (List.range' (k + 1) rest.length) (a.put o.dst v) cs' w
              | none => wpOpsS P ops (SPost n0 w0 nt c₀ cs ρ h w a.defers (seqOpsS P call nt ops rest t' u h)) (List.range' (k + 1) rest.length) (a.put o.dst .nilIface) ({ c₀ with mode := um } :: cs) w) := by
            intro hu t' et hne hf
            rw [recD_ret hM hu]
            have := seqOpsS_ok hc (c₀ := c₀) (cs := cs) rest (k + 1) t' u h ρ (a.put o.dst .nilIface) w um hl' hne (hT.put et .nili) hM H hf
            rw [put_defers] at this
            exact this
          cases u with
          | ret =>
            simp only at hne hf ⊢
            cases et : putT nt t o.dst .nili with
            | none => rw [et] at hne; exact absurd rfl hne
            | some t' =>
              rw [et] at hne hf
              exact other (by simp) et hne hf
          | pan v r =>
            cases r with
            | true =>
              simp only at hne hf ⊢
              cases et : putT nt t o.dst .nili with
              | none => rw [et] at hne; exact absurd rfl hne
              | some t' =>
                rw [et] at hne hf
                exact other (by simp) et hne hf
            | false =>
              simp only at hne hf ⊢
              cases et : putT nt t o.dst v with
              | none => rw [et] at hne; exact absurd rfl hne
              | some t' =>
                rw [et] at hne hf
                obtain ⟨v', o2, rfl, h1, h2⟩ := hM
                have hrec : recoverD ({ c₀ with mode := .panicking ({ v := v', recovered := false } :: o2) } :: cs) = some (v', { c₀ with mode := .panicking ({ v := v', recovered := true } :: o2) } :: cs) := rfl
                rw [hrec]
                have := seqOpsS_ok hc (c₀ := c₀) (cs := cs) rest (k + 1) t' (.pan v true) h ρ (a.put o.dst v') w (.panicking ({ v := v', recovered := true } :: o2)) hl' hne (hT.put et h2) ⟨v', o2, rfl, h1, h2⟩ H hf
                rw [put_defers] at this
                exact this
        | false =>
          rw [hd] at hne hf
          simp only [Bool.false_eq_true, if_false] at hne hf ⊢
          refine wpOpsS_op ho hw ?_
          have hsne : aStep P call t h o ≠ .fail := fun q => by rw [q] at hne; exact hne rfl
          refine step_ok hc hT H hsne ?_ ?_ ?_
          · cases es : aStep P call t h o with
            | ok v h' =>
              rw [es] at hne hf
              dsimp only at hne hf
              split at hne
              · rename_i t' et
                simp only [et] at hf
                exact hf.sub (Nat.le_refl _) (seqS_next hc rest t' u h' hne).1
              · exact absurd rfl hne
            | pan v h' => rw [es] at hf; exact hf
            | fail => exact absurd es hsne
          · intro v h' es ρ' v' w' hv H' S
            rw [es] at hne hf ⊢
            dsimp only at hne hf ⊢
            split at hne
            · rename_i t' et
              simp only [et] at hf ⊢
              have hih := seqOpsS_ok hc (c₀ := c₀) (cs := cs) rest (k + 1) t' u h' ρ' (a.put o.dst v') w' um hl' hne ((hT.mono S.le).put et hv) (hM.mono S.le) H' (Fr.step S hf)
              rw [put_defers] at hih
              exact wpOpsS_mono (fun e a cs w k => SPost.lift S k) _ _ _ _ hih
            · exact absurd rfl hne
          · intro v h' es ρ' ch w' hv H' S
            rw [es]
            exact ⟨rfl, ρ', um, ch, rfl, rfl, hv, hM.mg, H', S⟩

def DCPost (n0 : Nat) (w0 : World) (ρ : Ren) (h : Heap) (w : World) (r : Res Mode) (e : Ending) (um : FrameMode) (w' : World) : Prop :=
  match r with
  | .ok u' h' => (∃ v, e = .returned v) ∧ ∃ ρ', MR n0 ρ' u' um ∧ HR n0 w0 ρ' h' w' ∧ St n0 ρ h w ρ' h' w'
  | .pan v h' => ∃ ρ' ch, e = .panicked ch ∧ PR n0 ρ' v ch ∧ MG um ∧ HR n0 w0 ρ' h' w' ∧ St n0 ρ h w ρ' h' w'
  | .fail => False

theorem DCPost.lift {ρ ρ1 : Ren} {h h1 : Heap} {w w1 : World} {r : Res Mode} (S : St n0 ρ h w ρ1 h1 w1) {e : Ending} {um : FrameMode} {w' : World} (k : DCPost n0 w0 ρ1 h1 w1 r e um w') : DCPost n0 w0 ρ h w r e um w' := by
  cases r with
  | ok u h' => obtain ⟨a, ρ', b, c, d⟩ := k; exact ⟨a, ρ', b, c, S.trans d⟩
  | pan v h' => obtain ⟨ρ', ch, a, b, c, d, e⟩ := k; exact ⟨ρ', ch, a, b, c, d, S.trans e⟩
  | fail => exact k

def DcallOk (P : Program) (n0 : Nat) (w0 : World) (g : FuncId) (args : List AVal) (f : Mode → Heap → Res Mode) : Prop :=
  ∀ u h, f u h ≠ .fail → GrR h (f u h) ∧ ∀ ρ w args' um, VRs n0 ρ args args' → MR n0 ρ u um → HR n0 w0 ρ h w → Fr ρ h.next (f u h).nxt → CallsD P g args'.toArray um w (DCPost n0 w0 ρ h w (f u h))

theorem dcall_ok (hm : P.follows .mixedOrders = true) (hc : CallOk P n0 w0 call) (fuel : Nat) (g : FuncId) (args : List AVal) (hsl : ∀ fn c, P.funcs[g]? = some fn → fn.body = some c → codeSlots c = true) : DcallOk P n0 w0 g args (dcall P call fuel g args) := by
  intro u h hne
  unfold dcall at hne ⊢
  cases hfn : P.funcs[g]? with
  | none => rw [hfn] at hne; exact absurd rfl hne
  | some fn =>
    rw [hfn] at hne
    dsimp only at hne ⊢
    cases hb : fn.body with
    | none => rw [hb] at hne; exact absurd rfl hne
    | some c =>
      rw [hb] at hne
      dsimp only at hne ⊢
      have hs := hsl fn c hfn hb
      cases htop : topOp isRec c with
      | false =>
        rw [htop] at hne
        simp only [Bool.false_eq_true, if_false] at hne ⊢
        have hbne : body P call fuel fn args h ≠ .fail := fun q => hne (by rw [q]; rfl)
        obtain ⟨n1, k1⟩ := body_wp hm hc fuel hb hs args h hbne
        cases hr : body P call fuel fn args h with
        | fail => exact absurd hr hbne
        | ok v h1 =>
          rw [hr] at n1 k1
          refine ⟨n1, fun ρ w args' um ha hM H hf => (callsD_of_wp hfn hb (k1 ρ w args' ha H hf)).mono fun e u' w' k => ?_⟩
          obtain ⟨rfl, ρ', v', rfl, _, H', S⟩ := k
          exact ⟨⟨v', rfl⟩, ρ', hM.mono S.le, H', S⟩
        | pan v h1 =>
          rw [hr] at n1 k1
          refine ⟨n1, fun ρ w args' um ha hM H hf => (callsD_of_wp hfn hb (k1 ρ w args' ha H hf)).mono fun e u' w' k => ?_⟩
          obtain ⟨rfl, ρ', ch, rfl, hp, H', S⟩ := k
          exact ⟨ρ', ch, rfl, hp, hM.mg, H', S⟩
      | true =>
        rw [htop] at hne
        simp only [if_true] at hne ⊢
        cases c with
        | seq x y =>
          dsimp only at hne ⊢
          unfold execS at hne ⊢
          simp only [codeSlots, Bool.and_eq_true] at hs
          cases x with
          | region id ops draw =>
            cases draw with
            | true => exact absurd rfl hne
            | false =>
              dsimp only at hne ⊢
              have sne : seqOpsS P call (args.length + (fn.ntmps - args.length)) ops ops.toList (enterT args) u h ≠ .fail := fun q => hne (by rw [q]; rfl)
              have n1 := seqS_next hc ops.toList (enterT args) u h sne
              have start : ∀ {ρ : Ren} {w : World} {args' : List Value} {um : FrameMode}, VRs n0 ρ args args' → MR n0 ρ u um → HR n0 w0 ρ h w → Fr ρ h.next (seqOpsS P call (args.length + (fn.ntmps - args.length)) ops ops.toList (enterT args) u h).nxt →
                  ∀ {R : Ending → FrameMode → World → Prop}, (∀ (c₀ : Frame) (cs : List Frame) e a' cs' w', SPost n0 w0 (args.length + (fn.ntmps - args.length)) c₀ cs ρ h w [] (seqOpsS P call (args.length + (fn.ntmps - args.length)) ops ops.toList (enterT args) u h) e a' cs' w' →
                    Exit.thenS (y.wpS P (bodyPostS P fn c₀ cs R)) (bodyPostS P fn c₀ cs R) e a' cs' w') → CallsD P g args'.toArray um w R := by
                intro ρ w args' um ha hM H hf R hR
                have hl := ha.length
                refine callsD_of_wpS hfn hb fun c₀ cs hu => wpS_seq (wpS_region ?_)
                have := seqOpsS_ok hc (c₀ := c₀) (cs := cs) ops.toList 0 (enterT args) u h ρ ⟨args'.toArray ++ Array.replicate (fn.ntmps - args'.toArray.size) undef, []⟩ w um (fun j => by simp) sne (by
                  have := enter_ok ha (fn.ntmps - args.length)
                  rw [List.size_toArray, ← hl]; exact this) hM H hf
                rw [Array.length_toList, ← List.range_eq_range'] at this
                have hcc : ({ c₀ with mode := um } : Frame) = c₀ := by subst hu; rfl
                rw [hcc] at this
                exact wpOpsS_mono (hR c₀ cs) _ _ _ _ this
              cases hr : seqOpsS P call (args.length + (fn.ntmps - args.length)) ops ops.toList (enterT args) u h with
              | fail => exact absurd hr sne
              | pan v h1 =>
                rw [hr] at n1 start
                refine ⟨n1, fun ρ w args' um ha hM H hf => start ha hM H hf fun c₀ cs e a' cs' w' k => ?_⟩
                obtain ⟨hd, ρ', um', ch, rfl, rfl, hp, hg, H', S⟩ := k
                exact ⟨hd, um', rfl, ρ', ch, rfl, hp, hg, H', S⟩
              | ok p h1 =>
                obtain ⟨t1, u1⟩ := p
                rw [hr] at n1 start hne
                simp only [Res.bind] at hne ⊢
                have xne : exec P call fuel (args.length + (fn.ntmps - args.length)) y t1 h1 ≠ .fail := fun q => hne (by rw [q])
                obtain ⟨n2, _, k2⟩ := exec_ok (nt := args.length + (fn.ntmps - args.length)) hm hc fuel y hs.2 t1 h1 xne
                cases hr2 : exec P call fuel (args.length + (fn.ntmps - args.length)) y t1 h1 with
                | fail => exact absurd hr2 xne
                | pan v h2 =>
                  rw [hr2] at n2 k2
                  refine ⟨Gr.res n1 n2, fun ρ w args' um ha hM H hf => start ha hM H (hf.sub (Nat.le_refl _) n2.1) fun c₀ cs e a' cs' w' k => ?_⟩
                  obtain ⟨rfl, hd, ρ', um', rfl, hM', hT', H', S⟩ := k
                  refine wpS_of_wp (wp_mono (k2 ρ' a' w' hT' H' (Fr.step S hf) _ (fg_ok y t1)) fun e a2 w2 k => ?_)
                  obtain ⟨hd2, ρ2, ch, rfl, hp, _, H2, S2⟩ := k
                  exact ⟨hd2.trans hd, um', rfl, ρ2, ch, rfl, hp, hM'.mg, H2, S.trans S2⟩
                | ok q h2 =>
                  obtain ⟨ex, t2⟩ := q
                  rw [hr2] at n2 k2 hne
                  dsimp only at hne ⊢
                  have fin : ∀ {ρ : Ren} {w : World} {args' : List Value} {um : FrameMode}, ex = .normal ∨ ex = .ret → ∀ {rv}, aResults P fn t2 h2 = some rv → VRs n0 ρ args args' → MR n0 ρ u um → HR n0 w0 ρ h w → Fr ρ h.next h2.next → CallsD P g args'.toArray um w (DCPost n0 w0 ρ h w (.ok u1 h2)) := by
                    intro ρ w args' um hex rv hres ha hM H hf
                    refine start ha hM H (hf.sub (Nat.le_refl _) n2.1) fun c₀ cs e a' cs' w' k => ?_
                    obtain ⟨rfl, hd, ρ', um', rfl, hM', hT', H', S⟩ := k
                    refine wpS_of_wp (wp_mono (k2 ρ' a' w' hT' H' (Fr.step S hf) _ (fg_ok y t1)) fun e a2 w2 k => ?_)
                    obtain ⟨rfl, hd2, ρ2, hT2, H2, S2⟩ := k
                    obtain ⟨v', r1, r2⟩ := results_ok (P := P) hT2 H2 hres
                    rcases hex with rfl | rfl <;> exact ⟨hd2.trans hd, um', rfl, v', r1, ⟨v', rfl⟩, ρ2, hM'.mono S2.le, H2, S.trans S2⟩
                  cases ex with
                  | exit id => exact absurd rfl hne
                  | normal =>
                    dsimp only at hne ⊢
                    cases hres : aResults P fn t2 h2 with
                    | none => rw [hres] at hne; exact absurd rfl hne
                    | some rv => exact ⟨Gr.res n1 n2, fun ρ w args' um ha hM H hf => fin (.inl rfl) hres ha hM H hf⟩
                  | ret =>
                    dsimp only at hne ⊢
                    cases hres : aResults P fn t2 h2 with
                    | none => rw [hres] at hne; exact absurd rfl hne
                    | some rv => exact ⟨Gr.res n1 n2, fun ρ w args' um ha hM H hf => fin (.inr rfl) hres ha hM H hf⟩
          | _ => exact absurd rfl hne
        | _ => exact absurd rfl hne


/-! ### A frame is left -/

theorem CPost.lift {ρ ρ1 : Ren} {h h1 : Heap} {w w1 : World} {r : Res AVal} (S : St n0 ρ h w ρ1 h1 w1) {e : Ending} {w' : World} (k : CPost n0 w0 ρ1 h1 w1 r e w') : CPost n0 w0 ρ h w r e w' := by
  cases r with
  | ok v h' => obtain ⟨ρ', v', a, b, c, d⟩ := k; exact ⟨ρ', v', a, b, c, S.trans d⟩
  | pan v h' => obtain ⟨ρ', ch, a, b, c, d⟩ := k; exact ⟨ρ', ch, a, b, c, S.trans d⟩
  | fail => exact k

theorem Leaves.mono {fn : Func} {tmps : Array Value} {R R' : Ending → World → Prop} : ∀ {ds : List Deferred} {u : FrameMode} {w : World}, Leaves P fn tmps R ds u w → (∀ e w, R e w → R' e w) → Leaves P fn tmps R' ds u w
  | [], .returning, _, h, hr => by obtain ⟨v, a, b⟩ := h; exact ⟨v, a, hr _ _ b⟩
  | [], .panicking _, _, h, hr => hr _ _ h
  | [], .run, _, h, _ => h.elim
  | d :: ds, u, w, h, hr => by
    obtain ⟨h1, fv, cap, f, args, h2, h3, h4⟩ := h
    refine ⟨h1, fv, cap, f, args, h2, h3, h4.mono fun e u' w' k => ?_⟩
    cases e with
    | returned v => exact Leaves.mono k hr
    | panicked ch => exact Leaves.mono k hr
    | outgrown => exact hr _ _ k

theorem leave_ok (hm : P.follows .mixedOrders = true) (hc : CallOk P n0 w0 call) (fuel : Nat) (hsl : ∀ (g : FuncId) (fn : Func) (c : Code), P.funcs[g]? = some fn → fn.body = some c → codeSlots c = true) {fn : Func} {t : T} : ∀ (ds : List AVal) (u : Mode) (h : Heap), leave P call fuel fn t ds u h ≠ .fail →
    GrR h (leave P call fuel fn t ds u h) ∧ ∀ ρ w dm um tmps, RT n0 ρ nt t tmps → DsR n0 ρ ds dm → MR n0 ρ u um → HR n0 w0 ρ h w → Fr ρ h.next (leave P call fuel fn t ds u h).nxt → Leaves P fn tmps (CPost n0 w0 ρ h w (leave P call fuel fn t ds u h)) dm um w
  | [], .ret, h, hne => by
    simp only [leave] at hne ⊢
    cases hres : aResults P fn t h with
    | none => rw [hres] at hne; exact absurd rfl hne
    | some v =>
      refine ⟨Gr.refl _, fun ρ w dm um tmps hT hD hM H hf => ?_⟩
      cases hD
      cases hM
      obtain ⟨v', r1, r2⟩ := results_ok (P := P) hT H hres
      exact ⟨v', r1, ρ, v', rfl, r2, H, St.refl⟩
  | [], .pan v false, h, hne => by
    simp only [leave] at hne ⊢
    refine ⟨Gr.refl _, fun ρ w dm um tmps hT hD hM H hf => ?_⟩
    cases hD
    obtain ⟨v', o, rfl, h1, h2⟩ := hM
    exact ⟨ρ, _, rfl, ⟨v', o, rfl, h1, h2⟩, H, St.refl⟩
  | [], .pan v true, h, hne => by
    simp only [leave] at hne
    exact absurd rfl hne
  | d :: ds, u, h, hne => by
    have key : ∃ g a b, d = .fn g a b ∧ enters P g = true ∧ leave P call fuel fn t (d :: ds) u h = (match dcall P call fuel g (a ++ b) u h with
        | .ok u' h' => leave P call fuel fn t ds u'.settle h'
        | .pan v h' => leave P call fuel fn t ds (.pan v false) h'
        | .fail => .fail) := by
      cases d with
      | fn g a b =>
        cases hen : enters P g with
        | true => exact ⟨g, a, b, rfl, hen, by simp only [leave, hen, if_true]; rfl⟩
        | false => simp only [leave, hen, Bool.false_eq_true, if_false] at hne; exact absurd rfl hne
      | _ => simp only [leave] at hne; exact absurd rfl hne
    obtain ⟨g, a, b, rfl, hen, he⟩ := key
    rw [he] at hne ⊢
    have dne : dcall P call fuel g (a ++ b) u h ≠ .fail := fun q => hne (by rw [q])
    obtain ⟨n1, k1⟩ := dcall_ok (n0 := n0) (w0 := w0) hm hc fuel g (a ++ b) (fun fn c => hsl g fn c) u h dne
    have go : ∀ {ρ : Ren} {w : World} {dm : List Deferred} {um : FrameMode} {tmps : Array Value}, DsR n0 ρ (.fn g a b :: ds) dm → MR n0 ρ u um → HR n0 w0 ρ h w → Fr ρ h.next (dcall P call fuel g (a ++ b) u h).nxt →
        ∀ {R : Ending → World → Prop}, (∀ dm' e u' w', DsR n0 ρ ds dm' → DCPost n0 w0 ρ h w (dcall P call fuel g (a ++ b) u h) e u' w' → (match e, u', w' with
          | .returned _, u', w' => Leaves P fn tmps R dm' (settle u') w'
          | .panicked chain, u', w' => Leaves P fn tmps R dm' (raised u' chain) w'
          | .outgrown, _, w' => R .outgrown w')) → Leaves P fn tmps R dm um w := by
      intro ρ w dm um tmps hD hM H hf R hR
      cases hD with
      | cons ha hb r =>
        rename_i a' b' dm'
        refine leaves_cons (f := g) (args := (a' ++ b').toArray) hM.mg.1 ?_ ?_
        · have : a'.toArray ++ b'.toArray = (a' ++ b').toArray := by simp
          simp only [invoke, this]
          exact run_callFunc hen _ _
        · refine (k1 ρ w (a' ++ b') um (ha.append hb) hM H hf).mono fun e u' w' k => ?_
          have := hR dm' e u' w' r k
          cases e <;> exact this
    cases hr : dcall P call fuel g (a ++ b) u h with
    | fail => exact absurd hr dne
    | ok u1 h1 =>
      rw [hr] at hne n1 go
      dsimp only at hne ⊢
      obtain ⟨n2, k2⟩ := leave_ok hm hc fuel hsl (fn := fn) (t := t) ds u1.settle h1 hne
      refine ⟨Gr.res n1 n2, fun ρ w dm um tmps hT hD hM H hf => go hD hM H (hf.sub (Nat.le_refl _) n2.1) fun dm' e u' w' hD' k => ?_⟩
      obtain ⟨⟨v, rfl⟩, ρ', hM', H', S⟩ := k
      have := k2 ρ' w' dm' (settle u') tmps (hT.mono S.le) (hD'.mono S.le) hM'.settle H' (Fr.step S hf)
      exact Leaves.mono this fun e w2 q => CPost.lift S q
    | pan v h1 =>
      rw [hr] at hne n1 go
      dsimp only at hne ⊢
      obtain ⟨n2, k2⟩ := leave_ok hm hc fuel hsl (fn := fn) (t := t) ds (.pan v false) h1 hne
      refine ⟨Gr.res n1 n2, fun ρ w dm um tmps hT hD hM H hf => go hD hM H (hf.sub (Nat.le_refl _) n2.1) fun dm' e u' w' hD' k => ?_⟩
      obtain ⟨ρ', ch, rfl, hp, hg, H', S⟩ := k
      have := k2 ρ' w' dm' (raised u' ch) tmps (hT.mono S.le) (hD'.mono S.le) (hp.raise hg) H' (Fr.step S hf)
      exact Leaves.mono this fun e w2 q => CPost.lift S q

theorem bodyA_ok (hm : P.follows .mixedOrders = true) (hc : CallOk P n0 w0 call) (fuel : Nat) {f : FuncId} {fn : Func} (hfn : P.funcs[f]? = some fn) (hsl : ∀ (g : FuncId) (fn : Func) (c : Code), P.funcs[g]? = some fn → fn.body = some c → codeSlots c = true) (args : List AVal) (h : Heap)
    (hne : bodyA P call fuel fn args h ≠ .fail) : GrR h (bodyA P call fuel fn args h) ∧ ∀ ρ w args', VRs n0 ρ args args' → HR n0 w0 ρ h w → Fr ρ h.next (bodyA P call fuel fn args h).nxt →
    Calls P f args'.toArray w (CPost n0 w0 ρ h w (bodyA P call fuel fn args h)) := by
  unfold bodyA at hne ⊢
  cases hd : defers fn with
  | false =>
    rw [hd] at hne
    simp only [Bool.false_eq_true, if_false] at hne ⊢
    exact body_ok hm hc fuel hfn (fun c => hsl f fn c hfn) args h hne
  | true =>
    rw [hd] at hne
    simp only [if_true] at hne ⊢
    cases hb : fn.body with
    | none => rw [hb] at hne; exact absurd rfl hne
    | some c =>
      rw [hb] at hne
      dsimp only at hne ⊢
      unfold bodyD at hne ⊢
      have xne : execD P call fuel (args.length + (fn.ntmps - args.length)) c (enterT args) [] h ≠ .fail := fun q => hne (by rw [q]; rfl)
      obtain ⟨n1, k1⟩ := execD_ok (nt := args.length + (fn.ntmps - args.length)) hm hc fuel c (hsl f fn c hfn hb) (enterT args) [] h xne
      have start : ∀ {ρ : Ren} {w : World} {args' : List Value}, VRs n0 ρ args args' → HR n0 w0 ρ h w → Fr ρ h.next (execD P call fuel (args.length + (fn.ntmps - args.length)) c (enterT args) [] h).nxt → ∀ {R : Ending → World → Prop},
          (∀ e a' w', DPost n0 w0 (args.length + (fn.ntmps - args.length)) ρ h w (execD P call fuel (args.length + (fn.ntmps - args.length)) c (enterT args) [] h) e a' w' → bodyPostD P fn R e a' w') → Calls P f args'.toArray w R := by
        intro ρ w args' ha H hf R hR
        have hl := ha.length
        refine calls_of_wp_defers hfn hb ?_
        have := k1 ρ ⟨args'.toArray ++ Array.replicate (fn.ntmps - args'.toArray.size) undef, []⟩ w (by
          have := enter_ok ha (fn.ntmps - args.length)
          rw [List.size_toArray, ← hl]; exact this) .nil H hf
        exact wp_mono this hR
      have fin : ∀ {t1 : T} {ds1 : List AVal} {h1 : Heap} {u : Mode}, GrX h h1.next h1.n0 h1.cls → leave P call fuel fn t1 ds1 u h1 ≠ .fail → GrR h (leave P call fuel fn t1 ds1 u h1) ∧ GrR h1 (leave P call fuel fn t1 ds1 u h1) ∧
          ∀ {ρ ρ' : Ren} {w w' : World} {a' : Act} {um : FrameMode}, Fr ρ h.next (leave P call fuel fn t1 ds1 u h1).nxt → RT n0 ρ' (args.length + (fn.ntmps - args.length)) t1 a'.tmps → DsR n0 ρ' ds1 a'.defers → MR n0 ρ' u um → HR n0 w0 ρ' h1 w' → St n0 ρ h w ρ' h1 w' →
            Leaves P fn a'.tmps (CPost n0 w0 ρ h w (leave P call fuel fn t1 ds1 u h1)) a'.defers um w' := by
        intro t1 ds1 h1 u n1 lne
        obtain ⟨n2, k2⟩ := leave_ok (n0 := n0) (w0 := w0) (nt := args.length + (fn.ntmps - args.length)) hm hc fuel hsl (fn := fn) (t := t1) ds1 u h1 lne
        refine ⟨Gr.res n1 n2, n2, fun hf hT hD hM H S => ?_⟩
        exact Leaves.mono (k2 _ _ _ _ _ hT hD hM H (Fr.step S hf)) fun e w2 q => CPost.lift S q
      cases hr : execD P call fuel (args.length + (fn.ntmps - args.length)) c (enterT args) [] h with
      | fail => exact absurd hr xne
      | pan v t1 ds1 h1 =>
        rw [hr] at n1 start hne
        simp only [leaveD] at hne ⊢
        obtain ⟨g1, g2, g3⟩ := fin n1 hne
        refine ⟨g1, fun ρ w args' ha H hf => start ha H (hf.sub (Nat.le_refl _) g2.1) fun e a' w' k => ?_⟩
        obtain ⟨ρ', ch, rfl, hp, hT', hD', H', S⟩ := k
        exact g3 hf hT' hD' hp.mode H' S
      | ok ex t1 ds1 h1 =>
        rw [hr] at n1 start hne
        cases ex with
        | exit id => exact absurd rfl hne
        | normal =>
          simp only [leaveD] at hne ⊢
          obtain ⟨g1, g2, g3⟩ := fin n1 hne
          refine ⟨g1, fun ρ w args' ha H hf => start ha H (hf.sub (Nat.le_refl _) g2.1) fun e a' w' k => ?_⟩
          obtain ⟨rfl, ρ', hT', hD', H', S⟩ := k
          exact g3 hf hT' hD' rfl H' S
        | ret =>
          simp only [leaveD] at hne ⊢
          obtain ⟨g1, g2, g3⟩ := fin n1 hne
          refine ⟨g1, fun ρ w args' ha H hf => start ha H (hf.sub (Nat.le_refl _) g2.1) fun e a' w' k => ?_⟩
          obtain ⟨rfl, ρ', hT', hD', H', S⟩ := k
          exact g3 hf hT' hD' rfl H' S

/-- WHAT THE ABSTRACT MACHINE TELLS, THE MODEL DOES. -/
theorem acall_ok (hm : P.follows .mixedOrders = true) (hs : progSlots P = true) : ∀ n : Nat, CallOk P n0 w0 (acall P n)
  | 0 => fun f args h hne => absurd rfl hne
  | n + 1 => fun f args h hne => by
    simp only [acall] at hne ⊢
    cases hfn : P.funcs[f]? with
    | none => rw [hfn] at hne; exact absurd rfl hne
    | some fn =>
      rw [hfn] at hne
      exact bodyA_ok hm (acall_ok hm hs n) n hfn (fun g fn c hg hb => progSlots_at hs hg hb) args h hne

end
end Go.Ab
