/-
  The abstract machine: regions in the text's order.
-/
import Derived.Test.YtochkdifpgelmaaABOp4
set_option linter.unusedVariables false
set_option linter.unusedSimpArgs false
namespace Go.Ab

/-! ### Names only grow -/

/-- A later heap. -/
structure GrX (h : Heap) (nx bs : Nat) (cl : Nat → Option Nat) : Prop where
  next : h.next ≤ nx
  n0 : bs = h.n0
  cls : ∀ b, b < h.next → cl b = h.cls b
abbrev Gr (h h' : Heap) : Prop := GrX h h'.next h'.n0 h'.cls
theorem Gr.refl (h : Heap) : Gr h h := ⟨Nat.le_refl _, rfl, fun _ _ => rfl⟩
theorem Gr.trans {a b c : Heap} (h : Gr a b) (k : Gr b c) : Gr a c := ⟨Nat.le_trans h.1 k.1, k.2.trans h.2, fun x hx => (k.3 x (Nat.lt_of_lt_of_le hx h.1)).trans (h.3 x hx)⟩
theorem next_new (h : Heap) (m : Bool) (cs : List AVal) : Gr h (h.new m cs) := ⟨by rw [next_new']; omega, rfl, fun b _ => Heap.cls_new h m cs b⟩
theorem next_newG (h : Heap) (cs : List AVal) : Gr h (h.newG cs) := ⟨by rw [next_newG']; omega, rfl, fun b hb => by rw [Heap.cls_newG, if_neg (by omega)]⟩
theorem next_app (h : Heap) {r b : Nat} (cs : List AVal) (hr : h.cls b = some r) : Gr h (h.app r b cs) := ⟨by rw [next_app']; omega, rfl, fun b hb => by rw [Heap.cls_app h cs hr, if_neg (by omega)]⟩
theorem gr_put {h h' : Heap} {b off : Nat} {vs : List AVal} (e : h.put b off vs = some h') : Gr h h' := by
  obtain ⟨_, _, cs, _, _, rfl⟩ := Heap.put_eq e
  exact ⟨by rw [Heap.next_putB]; exact Nat.le_refl _, Heap.n0_putB _ _ _, fun b _ => Heap.cls_putB _ _ _ b⟩
theorem next_put {h h' : Heap} {b off : Nat} {vs : List AVal} (e : h.put b off vs = some h') : h'.next = h.next := by
  obtain ⟨_, _, cs, _, _, rfl⟩ := Heap.put_eq e; exact Heap.next_putB _ _ _

section
variable {P : Program} {h h' : Heap}

theorem next_store {t : TypeId} {x y v : AVal} (e : aStore P h t x y = .val v h') : Gr h h' := by
  unfold aStore at e
  repeat' split at e
  all_goals (try cases e)
  rename_i hp
  exact gr_put hp

theorem next_buildSlice {t : TypeId} {len : Nat} {parts : List (Nat × AVal)} {v : AVal} (e : aBuildSlice P h t len parts = .val v h') : Gr h h' := by
  unfold aBuildSlice at e
  repeat' split at e
  all_goals (try cases e)
  exact next_new _ _ _

theorem next_make {t : TypeId} {l c v : AVal} (e : aMake P h t l c = .val v h') : Gr h h' := by
  unfold aMake at e
  repeat' split at e
  all_goals (try cases e)
  exact next_new _ _ _

theorem next_conv {s d : TypeId} {x v : AVal} (e : aConv P h s d x = .val v h') : Gr h h' := by
  unfold aConv at e
  repeat' split at e
  all_goals (try cases e)
  all_goals first | exact Gr.refl _ | exact next_newG _ _

theorem next_append {s d : TypeId} {x y v : AVal} (e : aAppend P h s d x y = .val v h') : Gr h h' := by
  unfold aAppend at e
  repeat' split at e
  all_goals (try cases e)
  all_goals first
    | exact Gr.refl _
    | exact next_newG _ _
    | (rename_i hp; exact gr_put hp)
    | exact next_app _ _ (by assumption)

theorem next_copy {s : TypeId} {x y v : AVal} (e : aCopy P h s x y = .val v h') : Gr h h' := by
  unfold aCopy at e
  repeat' split at e
  all_goals (try cases e)
  all_goals first
    | exact Gr.refl _
    | (rename_i hp; exact gr_put hp)

theorem next_putB (h : Heap) (b : Nat) (cs : List AVal) : Gr h (h.putB b cs) := ⟨by rw [Heap.next_putB]; exact Nat.le_refl _, Heap.n0_putB _ _ _, fun x _ => Heap.cls_putB _ _ _ x⟩

theorem next_makeMap {t : TypeId} {v : AVal} (e : aMakeMap P h t = .val v h') : Gr h h' := by
  unfold aMakeMap at e
  split at e
  · cases e; exact next_new _ _ _
  · cases e
theorem next_mapUpdate {t : TypeId} {m k x v : AVal} (e : aMapUpdate P h t m k x = .val v h') : Gr h h' := by
  unfold aMapUpdate at e
  repeat' split at e
  all_goals (try cases e)
  all_goals exact next_putB _ _ _
theorem next_mapEntry {t : TypeId} {m k v : AVal} (e : aMapEntry P h t m k = .val v h') : Gr h h' := by
  unfold aMapEntry at e
  repeat' split at e
  all_goals (try cases e)
  all_goals exact next_putB _ _ _
theorem next_entryStore {m s x v : AVal} (e : aEntryStore h m s x = .val v h') : Gr h h' := by
  unfold aEntryStore at e
  repeat' split at e
  all_goals (try cases e)
  all_goals exact next_putB _ _ _

theorem next_of {o : Option AVal} {v : AVal} (e : AR.of o h = .val v h') : Gr h h' := by
  cases o <;> cases e
  exact Gr.refl _

theorem next_builtin {b : Builtin} {ts : Array TypeId} {ty : TypeId} {args : List AVal} {v : AVal} (e : aBuiltin P h b ts ty args = .val v h') : Gr h h' := by
  unfold aBuiltin at e
  split at e
  · split at e <;> exact next_of e
  · exact next_append e
  · exact next_copy e
  · exact next_of e
  · exact next_of e
  · cases e

theorem next_op {ev : Operand → AVal} {o : Oper} {v : AVal} (e : aOp P ev h o = .val v h') : Gr h h' := by
  unfold aOp at e
  split at e
  all_goals first
    | (cases e; done)
    | (cases e; exact Gr.refl _)
    | exact next_of e
    | exact next_store e
    | exact next_buildSlice e
    | exact next_make e
    | exact next_conv e
    | exact next_makeMap e
    | exact next_mapUpdate e
    | exact next_mapEntry e
    | exact next_entryStore e
    | (split at e <;> first | exact next_of e | (cases e <;> first | exact Gr.refl _ | exact next_new _ _ _))
    | (split at e <;> first | exact next_builtin e | (split at e <;> first | (split at e <;> first | exact next_of e | cases e) | cases e) | cases e)

theorem next_call {ev : Operand → AVal} {o : Oper} {f : FuncId} {args : List AVal} (e : aOp P ev h o = .call f args h') : h' = h := by
  have nope : ∀ {r : AR}, r.plain = true → r ≠ .call f args h' := fun hp q => by subst q; cases hp
  unfold aOp at e
  split at e
  all_goals first
    | (cases e; done)
    | exact absurd e (nope (plain_of _ _))
    | exact absurd e (nope plain_buildSlice)
    | exact absurd e (nope plain_make)
    | exact absurd e (nope plain_conv)
    | exact absurd e (nope plain_makeMap)
    | exact absurd e (nope plain_mapUpdate)
    | exact absurd e (nope plain_mapEntry)
    | exact absurd e (nope plain_entryStore)
    | skip
  all_goals first
    | (split at e <;> first | (cases e; done) | exact absurd e (nope (plain_of _ _)) | skip)
    | skip
  all_goals first
    | (unfold aStore at e; repeat' split at e) <;> cases e <;> done
    | (unfold aBuiltin at e; split at e <;> first | exact absurd e (nope (plain_of _ _)) | exact absurd e (nope plain_append) | exact absurd e (nope plain_copy) | (split at e <;> exact absurd e (nope (plain_of _ _))) | cases e)
    | (split at e <;> first | (split at e <;> first | exact absurd e (nope (plain_of _ _)) | (cases e <;> rfl)) | cases e)
end

/-! ### Frames -/

structure RT (n0 : Nat) (ρ : Ren) (nt : Nat) (t : T) (tmps : Array Value) : Prop where
  size : tmps.size = nt
  at_ : ∀ i, VR n0 ρ (t i) (tmps.getD i undef)

section
variable {n0 nt : Nat} {w0 : World} {ρ ρ' : Ren} {h : Heap} {w : World} {P : Program} {t : T} {tmps : Array Value}

theorem RT.mono (k : RT n0 ρ nt t tmps) (hle : ρ.le ρ') : RT n0 ρ' nt t tmps := ⟨k.size, fun i => (k.at_ i).mono hle⟩

theorem VR.undef : VR n0 ρ aUndef undef := .tup .nil

theorem RT.eval {a : Act} (k : RT n0 ρ nt t a.tmps) (x : Operand) : VR n0 ρ (aEval t x) (a.eval x) := by
  cases x with
  | tmp i => exact k.at_ i
  | const v => exact ofV0 v
  | global g => exact .opq _
  | func f => exact .fn .nil .nil

theorem RT.put {a : Act} (k : RT n0 ρ nt t a.tmps) {d : Option Tmp} {v : AVal} {v' : Value} {t' : T} (e : putT nt t d v = some t') (hv : VR n0 ρ v v') : RT n0 ρ nt t' (a.put d v').tmps := by
  cases d with
  | none => simp only [putT, Option.some.injEq] at e; subst e; exact k
  | some d =>
    simp only [putT] at e
    split at e
    · rename_i hd
      cases e
      refine ⟨by simp [Act.put, k.size], fun i => ?_⟩
      simp only [Act.put, upd]
      by_cases hi : i = d
      · subst hi
        rw [if_pos rfl]
        have : i < a.tmps.size := by rw [k.size]; exact hd
        simpa [this] using hv
      · rw [if_neg hi]
        have := k.at_ i
        have hg : (a.tmps.setIfInBounds d v').getD i undef = a.tmps.getD i undef := by
          simp only [Array.getD_eq_getD_getElem?]
          rw [Array.getElem?_setIfInBounds_ne (fun q => hi q.symm)]
        rw [hg]; exact this
    · cases e

theorem wanted_ok {all : Array Oper} {o : Oper} {b : Bool} (k : RT n0 ρ nt t tmps) (e : aWanted all t o = some b) : Region.wanted o (yielded all tmps) = b := by
  unfold aWanted at e
  unfold Region.wanted
  split at e
  · rename_i hg; rw [hg]; cases e; rfl
  · rename_i j want hg
    rw [hg]
    simp only
    split at e
    · rename_i g hgg
      split at e
      · rename_i d hd
        have hk := k.at_ d
        have hy : yielded all tmps j = match tmps[d]? with | some (.bool b) => some b | _ => none := by
          unfold yielded
          rw [hgg]
          simp only [Option.bind_some, hd]
          rfl
        rw [hy]
        rw [Array.getD_eq_getD_getElem?] at hk
        split at e
        · rename_i c hc
          rw [hc] at hk
          cases e
          cases hq : tmps[d]? with
          | none => rw [hq] at hk; simp only [Option.getD_none, undef] at hk; cases hk
          | some u =>
            rw [hq] at hk
            simp only [Option.getD_some] at hk
            cases hk
            cases c <;> cases want <;> rfl
        · rename_i hc
          rw [hc] at hk
          cases e
          cases hq : tmps[d]? with
          | none => rfl
          | some u =>
            rw [hq] at hk
            simp only [Option.getD_some] at hk
            cases hk
            rfl
        · cases e
      · cases e
    · cases e

/-! ### One operation -/

def Res.nxt {α : Type} : Res α → Nat
  | .ok _ h => h.next
  | .pan _ h => h.next
  | .fail => 0

def Res.bas {α : Type} : Res α → Nat
  | .ok _ h => h.n0
  | .pan _ h => h.n0
  | .fail => 0

def Res.clf {α : Type} : Res α → Nat → Option Nat
  | .ok _ h => h.cls
  | .pan _ h => h.cls
  | .fail => fun _ => none

/-- What comes is later. -/
abbrev GrR {α : Type} (h : Heap) (r : Res α) : Prop := GrX h r.nxt r.bas r.clf
theorem Gr.res {α : Type} {a b : Heap} {r : Res α} (h : Gr a b) (k : GrR b r) : GrR a r := ⟨Nat.le_trans h.1 k.1, k.2.trans h.2, fun x hx => (k.3 x (Nat.lt_of_lt_of_le hx h.1)).trans (h.3 x hx)⟩

/-- A chain of panics whose foremost one, not recovered, is v's. -/
def PR (n0 : Nat) (ρ : Ren) (v : AVal) (ch : List PanicEntry) : Prop :=
  ∃ v' older, ch = { v := v', recovered := false } :: older ∧ (∀ x ∈ older, x.goexit = false) ∧ VR n0 ρ v v'
theorem PR.one {n0 : Nat} {ρ : Ren} {v : AVal} {v' : Value} (k : VR n0 ρ v v') : PR n0 ρ v [{ v := v', recovered := false }] := ⟨v', [], rfl, by simp, k⟩

def CPost (n0 : Nat) (w0 : World) (ρ : Ren) (h : Heap) (w : World) (r : Res AVal) (e : Ending) (w' : World) : Prop :=
  match r with
  | .ok v h' => ∃ ρ' v', e = .returned v' ∧ VR n0 ρ' v v' ∧ HR n0 w0 ρ' h' w' ∧ St n0 ρ h w ρ' h' w'
  | .pan v h' => ∃ ρ' ch, e = .panicked ch ∧ PR n0 ρ' v ch ∧ HR n0 w0 ρ' h' w' ∧ St n0 ρ h w ρ' h' w'
  | .fail => False

def CallOk (P : Program) (n0 : Nat) (w0 : World) (call : FuncId → List AVal → Heap → Res AVal) : Prop :=
  ∀ f args h, call f args h ≠ .fail → GrR h (call f args h) ∧ ∀ ρ w args', VRs n0 ρ args args' → HR n0 w0 ρ h w → Fr ρ h.next (call f args h).nxt →
    Calls P f args'.toArray w (CPost n0 w0 ρ h w (call f args h))

theorem step_next {call : FuncId → List AVal → Heap → Res AVal} (hc : CallOk P n0 w0 call) {o : Oper} (hne : aStep P call t h o ≠ .fail) : GrR h (aStep P call t h o) := by
  unfold aStep at hne ⊢
  split at hne <;> rename_i e
  · exact next_op e
  · have := next_call e; subst this
    exact (hc _ _ _ hne).1
  · show Gr _ _
    have : ∀ {r : AR}, r.plain = true → ∀ v k, r ≠ .pan v k := fun hp v k q => by subst q; cases hp
    clear hne
    unfold aOp at e
    split at e
    all_goals first
      | (cases e; done)
      | exact absurd e (this (plain_of _ _) _ _)
      | exact absurd e (this plain_buildSlice _ _)
      | exact absurd e (this plain_make _ _)
      | exact absurd e (this plain_conv _ _)
      | exact absurd e (this plain_makeMap _ _)
      | exact absurd e (this plain_mapUpdate _ _)
      | exact absurd e (this plain_mapEntry _ _)
      | exact absurd e (this plain_entryStore _ _)
      | skip
    all_goals first
      | (split at e <;> first | (cases e; done) | (cases e; exact Gr.refl _) | exact absurd e (this (plain_of _ _) _ _) | skip)
      | skip
    all_goals first
      | (unfold aStore at e; repeat' split at e) <;> cases e <;> done
      | (unfold aBuiltin at e; split at e <;> first | exact absurd e (this (plain_of _ _) _ _) | exact absurd e (this plain_append _ _) | exact absurd e (this plain_copy _ _) | (split at e <;> exact absurd e (this (plain_of _ _) _ _)) | cases e)
      | (split at e <;> first | (split at e <;> first | exact absurd e (this (plain_of _ _) _ _) | cases e) | cases e)
  · exact absurd rfl hne

theorem step_ok {call : FuncId → List AVal → Heap → Res AVal} (hc : CallOk P n0 w0 call) {a : Act} (hT : RT n0 ρ nt t a.tmps) (H : HR n0 w0 ρ h w) {o : Oper} (hne : aStep P call t h o ≠ .fail)
    (hf : Fr ρ h.next (aStep P call t h o).nxt) {K : Act → World → Prop} {Q : Exit → Act → World → Prop}
    (hok : ∀ v h', aStep P call t h o = .ok v h' → ∀ ρ' v' w', VR n0 ρ' v v' → HR n0 w0 ρ' h' w' → St n0 ρ h w ρ' h' w' → K (a.put o.dst v') w')
    (hpan : ∀ v h', aStep P call t h o = .pan v h' → ∀ ρ' ch w', PR n0 ρ' v ch → HR n0 w0 ρ' h' w' → St n0 ρ h w ρ' h' w' → Q (.panic ch) a w') : o.wp P a w K Q := by
  have hop := aOp_ok (P := P) hT.eval H o
  unfold Oper.wp
  unfold aStep at hne hf hok hpan
  cases e : aOp P (aEval t) h o with
  | val v h' =>
    rw [e] at hop hf hok
    simp only at hf hok
    obtain ⟨ρ', w', x, hr, hx, H', S⟩ := hop fun hlt => hf _ (Nat.le_refl _) hlt
    rw [hr]
    rcases hx with ⟨v', rfl, hv⟩ | ⟨rfl, rfl⟩
    · exact hok v h' rfl ρ' v' w' hv H' S
    · exact hok _ h' rfl ρ' undef w' VR.undef H' S
  | call f args h' =>
    rw [e] at hop hf hok hpan hne
    obtain ⟨rfl, hen, args', ha, hr⟩ := hop
    simp only at hf hok hpan hne
    rw [hr]
    obtain ⟨_, hcall⟩ := hc f args h' hne
    refine (hcall ρ w args' ha H hf).mono fun e' w' hp => ?_
    cases hres : call f args h' with
    | ok v h2 =>
      rw [hres] at hp
      obtain ⟨ρ', v', rfl, k1, k2, k3⟩ := hp
      exact hok v h2 hres ρ' v' w' k1 k2 k3
    | pan v h2 =>
      rw [hres] at hp
      obtain ⟨ρ', ch, rfl, k1, k2, k3⟩ := hp
      exact hpan v h2 hres ρ' ch w' k1 k2 k3
    | fail => exact absurd hres hne
  | pan v h' =>
    rw [e] at hop hpan
    obtain ⟨rfl, v', hv, hr⟩ := hop
    rw [hr]
    exact hpan v h' rfl ρ _ w (.one hv) H St.refl
  | fail => rw [e] at hne; exact absurd rfl hne

/-! ### A region in the text's order -/

theorem upon_monoQ {o : Oper} {a : Act} {K K' : Act → World → Prop} {Q Q' : Exit → Act → World → Prop} (hK : ∀ a w, K a w → K' a w) (hQ : ∀ e a w, Q e a w → Q' e a w) {r : Result Next}
    (hh : o.upon P a K Q r) : o.upon P a K' Q' r := by
  cases r with
  | ok n w' =>
    cases n <;> simp only [Oper.upon] at hh ⊢ <;>
      first
        | exact hK _ _ hh
        | exact Calls.mono hh (fun e w'' he => by cases e <;> first | exact hK _ _ he | exact hQ _ _ _ he | (obtain ⟨a, w, q⟩ := he; exact ⟨a, w, hQ _ _ _ q⟩))
        | exact Rows.mono hh (fun _ _ he => hK _ _ he)
  | halt x w' => cases x <;> simp only [Oper.upon] at hh ⊢ <;> first | exact hQ _ _ _ hh | exact hh

theorem wpOps_monoQ {ops : Array Oper} {Q Q' : Exit → Act → World → Prop} (hQ : ∀ e a w, Q e a w → Q' e a w) : ∀ (l : List Nat) (a : Act) (w : World), wpOps P ops Q l a w → wpOps P ops Q' l a w
  | [], a, w, h => hQ _ _ _ h
  | i :: rest, a, w, h => by
    simp only [wpOps] at h ⊢
    split
    · rename_i e; rw [e] at h; exact wpOps_monoQ hQ rest a w h
    · rename_i o e
      rw [e] at h
      simp only at h
      split
      · rename_i hw
        rw [if_pos hw] at h
        rcases h with h | ⟨h1, a', w', q⟩
        · exact .inl (upon_monoQ (fun a w => wpOps_monoQ hQ rest a w) hQ h)
        · exact .inr ⟨h1, a', w', hQ _ _ _ q⟩
      · rename_i hw
        rw [if_neg hw] at h
        exact wpOps_monoQ hQ rest _ w h

def RPost (n0 : Nat) (w0 : World) (nt : Nat) (ρ : Ren) (h : Heap) (w : World) (df : List Deferred) (g : T) (r : Res T) (e : Exit) (a' : Act) (w' : World) : Prop :=
  match r with
  | .ok t' h' => e = .normal ∧ a'.defers = df ∧ ∃ ρ', RT n0 ρ' nt t' a'.tmps ∧ HR n0 w0 ρ' h' w' ∧ St n0 ρ h w ρ' h' w'
  | .pan v h' => a'.defers = df ∧ ∃ ρ' ch, e = .panic ch ∧ PR n0 ρ' v ch ∧ RT n0 ρ' nt g a'.tmps ∧ HR n0 w0 ρ' h' w' ∧ St n0 ρ h w ρ' h' w'
  | .fail => False

theorem put_defers (a : Act) (d : Option Tmp) (v : Value) : (a.put d v).defers = a.defers := by cases d <;> rfl

theorem RPost.lift {ρ1 : Ren} {h1 : Heap} {w1 : World} {df : List Deferred} {g : T} {r : Res T} (S : St n0 ρ h w ρ1 h1 w1) {e : Exit} {a' : Act} {w' : World} (k : RPost n0 w0 nt ρ1 h1 w1 df g r e a' w') : RPost n0 w0 nt ρ h w df g r e a' w' := by
  cases r with
  | ok t' h' => obtain ⟨a, b, ρ', c, d, f⟩ := k; exact ⟨a, b, ρ', c, d, S.trans f⟩
  | pan v h' => obtain ⟨b, ρ', v', a, c, d, l, f⟩ := k; exact ⟨b, ρ', v', a, c, d, l, S.trans f⟩
  | fail => exact k

theorem seq_next {call : FuncId → List AVal → Heap → Res AVal} (hc : CallOk P n0 w0 call) {all : Array Oper} : ∀ (l : List Oper) (t : T) (h : Heap), seqOps P call nt all l t h ≠ .fail → GrR h (seqOps P call nt all l t h)
  | [], t, h, _ => Gr.refl _
  | o :: rest, t, h, hne => by
    simp only [seqOps] at hne ⊢
    cases ew : aWanted all t o with
    | none => rw [ew] at hne; exact absurd rfl hne
    | some b =>
      rw [ew] at hne
      cases b with
      | true =>
        dsimp only at hne ⊢
        cases es : aStep P call t h o with
        | ok v h' =>
          rw [es] at hne
          simp only [Res.bind] at hne ⊢
          have h1 : Gr h h' := by have := step_next hc (t := t) (h := h) (o := o) (by rw [es]; simp); rwa [es] at this
          cases et : putT nt t o.dst v with
          | some t' =>
            rw [et] at hne
            exact h1.res (seq_next hc rest t' h' hne)
          | none => rw [et] at hne; exact absurd rfl hne
        | pan v h' =>
          have := step_next hc (t := t) (h := h) (o := o) (by rw [es]; simp)
          rwa [es] at this
        | fail => rw [es] at hne; exact absurd rfl hne
      | false =>
        dsimp only at hne ⊢
        cases et : putT nt t o.dst aUndef with
        | some t' =>
          rw [et] at hne
          exact seq_next hc rest t' h hne
        | none => rw [et] at hne; exact absurd rfl hne

/-- What is known of the slots, or less. -/
theorem RT.less {g : T} (k : RT n0 ρ nt t tmps) (hg : ∀ d, g d = .opq ∨ g d = t d) : RT n0 ρ nt g tmps := ⟨k.size, fun i => by
  rcases hg i with q | q
  · rw [q]; exact .opq _
  · rw [q]; exact k.at_ i⟩

theorem putT_keeps {d : Option Tmp} {v : AVal} {t' : T} (e : putT nt t d v = some t') {i : Nat} (hi : d ≠ some i) : t' i = t i := by
  cases d with
  | none => simp only [putT, Option.some.injEq] at e; rw [← e]
  | some d =>
    simp only [putT] at e
    split at e
    · cases e
      unfold upd
      rw [if_neg (fun q => hi (by rw [q]))]
    · cases e

theorem seq_keeps {call : FuncId → List AVal → Heap → Res AVal} {all : Array Oper} {i : Nat} : ∀ (l : List Oper) (t : T) (h : Heap) (t' : T) (h' : Heap), seqOps P call nt all l t h = .ok t' h' → (∀ o ∈ l, o.dst ≠ some i) → t' i = t i
  | [], t, h, t', h', e, _ => by simp only [seqOps, Res.ok.injEq] at e; rw [e.1]
  | o :: rest, t, h, t', h', e, hl => by
    simp only [seqOps] at e
    have h1 := hl o (by simp)
    have h2 : ∀ o ∈ rest, o.dst ≠ some i := fun o ho => hl o (by simp [ho])
    split at e
    · cases es : aStep P call t h o with
      | ok v h2' =>
        rw [es] at e
        simp only [Res.bind] at e
        split at e
        · rename_i t2 et
          rw [seq_keeps rest _ _ _ _ e h2, putT_keeps et h1]
        · cases e
      | pan v h2' => rw [es] at e; cases e
      | fail => rw [es] at e; cases e
    · split at e
      · rename_i t2 et
        rw [seq_keeps rest _ _ _ _ e h2, putT_keeps et h1]
      · cases e
    · cases e

theorem seqOps_ok {call : FuncId → List AVal → Heap → Res AVal} (hc : CallOk P n0 w0 call) {ops : Array Oper} : ∀ (l : List Oper) (k : Nat) (t : T) (h : Heap) (ρ : Ren) (a : Act) (w : World), (∀ j, l[j]? = ops[k + j]?) →
    seqOps P call nt ops l t h ≠ .fail → RT n0 ρ nt t a.tmps → HR n0 w0 ρ h w → Fr ρ h.next (seqOps P call nt ops l t h).nxt → ∀ g : T, (∀ d, g d = .opq ∨ g d = t d ∧ ∀ o ∈ l, o.dst ≠ some d) →
    wpOps P ops (RPost n0 w0 nt ρ h w a.defers g (seqOps P call nt ops l t h)) (List.range' k l.length) a w
  | [], k, t, h, ρ, a, w, _, _, hT, H, _, _, _ => by
    simp only [List.length_nil, List.range'_zero, wpOps, seqOps, RPost]
    exact ⟨by trivial, by trivial, ρ, hT, H, St.refl⟩
  | o :: rest, k, t, h, ρ, a, w, hl, hne, hT, H, hf, g, hg => by
    have hg' : ∀ {v : AVal} {t' : T}, putT nt t o.dst v = some t' → ∀ d, g d = .opq ∨ g d = t' d ∧ ∀ o ∈ rest, o.dst ≠ some d := fun et d => by
      rcases hg d with q | ⟨q, k⟩
      · exact .inl q
      · exact .inr ⟨by rw [putT_keeps et (k o (by simp))]; exact q, fun x hx => k x (by simp [hx])⟩
    have ho : ops[k]? = some o := by simpa using (hl 0).symm
    have hl' : ∀ j, rest[j]? = ops[k + 1 + j]? := fun j => by have := hl (j + 1); simpa [Nat.add_assoc, Nat.add_comm 1 j] using this
    simp only [List.length_cons, List.range'_succ, wpOps, ho]
    simp only [seqOps] at hne hf ⊢
    cases ew : aWanted ops t o with
    | none => rw [ew] at hne; exact absurd rfl hne
    | some b =>
      rw [ew] at hne hf
      rw [wanted_ok hT ew]
      cases b with
      | true =>
        dsimp only at hne hf ⊢
        rw [if_pos rfl]
        left
        have hsne : aStep P call t h o ≠ .fail := fun q => by rw [q] at hne; exact hne rfl
        refine step_ok hc hT H hsne ?_ ?_ ?_
        · cases es : aStep P call t h o with
          | ok v h' =>
            rw [es] at hne hf
            simp only [Res.bind] at hne hf
            split at hne
            · rename_i t' et
              simp only [et] at hf
              exact hf.sub (Nat.le_refl _) (seq_next hc rest t' h' hne).1
            · exact absurd rfl hne
          | pan v h' => rw [es] at hf; exact hf
          | fail => exact absurd es hsne
        · intro v h' es ρ' v' w' hv H' S
          rw [es] at hne hf ⊢
          simp only [Res.bind] at hne hf ⊢
          split at hne
          · rename_i t' et
            simp only [et] at hf ⊢
            have hih := seqOps_ok hc rest (k + 1) t' h' ρ' (a.put o.dst v') w' hl' hne ((hT.mono S.le).put et hv) H' (Fr.step S hf) g (hg' et)
            rw [put_defers] at hih
            exact wpOps_monoQ (fun e a w k => RPost.lift S k) _ _ _ hih
          · exact absurd rfl hne
        · intro v h' es ρ' v' w' hv H' S
          rw [es]
          exact ⟨rfl, ρ', v', rfl, hv, (hT.mono S.le).less (fun d => (hg d).imp_right And.left), H', S⟩
      | false =>
        dsimp only at hne hf ⊢
        rw [if_neg Bool.false_ne_true]
        split at hne
        · rename_i t' et
          simp only [et] at hf ⊢
          have hih := seqOps_ok hc rest (k + 1) t' h ρ (a.put o.dst undef) w hl' hne (hT.put et VR.undef) H hf g (hg' et)
          rw [put_defers] at hih
          exact hih
        · exact absurd rfl hne

end
end Go.Ab
