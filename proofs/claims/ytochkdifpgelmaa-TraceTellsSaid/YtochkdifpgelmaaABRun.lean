/-
  The abstract machine: code and calls. What it tells, the model does.
-/
import Derived.Test.YtochkdifpgelmaaABDraw3
set_option linter.unusedVariables false
set_option linter.unusedSimpArgs false
namespace Go.Ab

section
variable {n0 nt : Nat} {w0 : World} {P : Program}

def toExit : Ex → Exit
  | .normal => .normal
  | .exit id => .exit id
  | .ret => .ret

def XPost (n0 : Nat) (w0 : World) (nt : Nat) (ρ : Ren) (h : Heap) (w : World) (df : List Deferred) (g : T) (r : Res (Ex × T)) (e : Exit) (a' : Act) (w' : World) : Prop :=
  match r with
  | .ok (ex, t') h' => e = toExit ex ∧ a'.defers = df ∧ ∃ ρ', RT n0 ρ' nt t' a'.tmps ∧ HR n0 w0 ρ' h' w' ∧ St n0 ρ h w ρ' h' w'
  | .pan v h' => a'.defers = df ∧ ∃ ρ' ch, e = .panic ch ∧ PR n0 ρ' v ch ∧ RT n0 ρ' nt g a'.tmps ∧ HR n0 w0 ρ' h' w' ∧ St n0 ρ h w ρ' h' w'
  | .fail => False

theorem XPost.lift {ρ ρ1 : Ren} {h h1 : Heap} {w w1 : World} {df : List Deferred} {g : T} {r : Res (Ex × T)} (S : St n0 ρ h w ρ1 h1 w1) {e : Exit} {a' : Act} {w' : World} (k : XPost n0 w0 nt ρ1 h1 w1 df g r e a' w') : XPost n0 w0 nt ρ h w df g r e a' w' := by
  cases r with
  | ok p h' => obtain ⟨ex, t'⟩ := p; obtain ⟨a, b, ρ', c, d, f⟩ := k; exact ⟨a, b, ρ', c, d, S.trans f⟩
  | pan v h' => obtain ⟨b, ρ', v', a, c, d, l, f⟩ := k; exact ⟨b, ρ', v', a, c, d, l, S.trans f⟩
  | fail => exact k

/-- What g tells of the slots is known, and c does not write it. -/
def GOk (c : Code) (t g : T) : Prop := ∀ d, g d = .opq ∨ g d = t d ∧ wr c d = false
theorem fg_ok (c : Code) (t : T) : GOk c t (fg c t) := fun d => by
  unfold fg
  cases wr c d with
  | true => exact .inl rfl
  | false => exact .inr ⟨rfl, rfl⟩
theorem GOk.sub {c c' : Code} {t g : T} (k : GOk c t g) (hs : ∀ d, wr c d = false → wr c' d = false) : GOk c' t g := fun d => (k d).imp_right fun q => ⟨q.1, hs d q.2⟩

/-- What is to be shown of a piece of code. -/
def CodeOk (P : Program) (n0 : Nat) (w0 : World) (nt : Nat) (c : Code) (f : T → Heap → Res (Ex × T)) : Prop :=
  ∀ t h, f t h ≠ .fail → GrR h (f t h) ∧ (∀ ex t' h', f t h = .ok (ex, t') h' → ∀ d, wr c d = false → t' d = t d) ∧
    ∀ ρ a w, RT n0 ρ nt t a.tmps → HR n0 w0 ρ h w → Fr ρ h.next (f t h).nxt → ∀ g, GOk c t g → c.wp P (XPost n0 w0 nt ρ h w a.defers g (f t h)) a w
theorem GOk.go {c c' : Code} {t t' g : T} (k : GOk c t g) (ht : ∀ d, wr c d = false → t' d = t d) (hs : ∀ d, wr c d = false → wr c' d = false) : GOk c' t' g := fun d => (k d).imp_right fun q => ⟨by rw [ht d q.2]; exact q.1, hs d q.2⟩

theorem region_ok (hm : P.follows .mixedOrders = true) {call : FuncId → List AVal → Heap → Res AVal} (hc : CallOk P n0 w0 call) (id : Nat) (ops : Array Oper) (draw : Bool) (hsl : draw = true → slotsOk ops = true) :
    CodeOk P n0 w0 nt (.region id ops draw) fun t h => (region P call nt ops draw t h).bind fun t' h' => .ok (.normal, t') h' := by
  intro t h hne
  have hne' : region P call nt ops draw t h ≠ .fail := fun q => hne (by simp only [q]; rfl)
  have hnx : ((region P call nt ops draw t h).bind fun t' h' => Res.ok (Ex.normal, t') h').nxt = (region P call nt ops draw t h).nxt := by
    cases region P call nt ops draw t h <;> rfl
  have hn0 : GrR h (region P call nt ops draw t h) → GrR h ((region P call nt ops draw t h).bind fun t' h' => Res.ok (Ex.normal, t') h') := by
    cases region P call nt ops draw t h <;> exact fun k => k
  have post : ∀ {ρ : Ren} {w : World} {df : List Deferred} {g : T} {e : Exit} {a' : Act} {w' : World}, RPost n0 w0 nt ρ h w df g (region P call nt ops draw t h) e a' w' →
      XPost n0 w0 nt ρ h w df g ((region P call nt ops draw t h).bind fun t' h' => .ok (.normal, t') h') e a' w' := by
    intro ρ w df g e a' w' k
    cases hr : region P call nt ops draw t h with
    | ok t' h' => rw [hr] at k; exact k
    | pan v h' => rw [hr] at k; exact k
    | fail => exact absurd hr hne'
  rw [hnx]
  have hdst : ∀ {d : Nat}, wr (.region id ops draw) d = false → ∀ o ∈ ops.toList, o.dst ≠ some d := by
    intro d hd o ho q
    simp only [wr, List.any_eq_false] at hd
    exact hd o ho (by rw [q]; simp)
  refine ⟨hn0 ?_, ?_, ?_⟩ <;> unfold region at hne' post ⊢
  · cases draw with
    | true => exact draw_next hc (hsl rfl) hne'
    | false => exact seq_next hc _ _ _ hne'
  · intro ex t' h' e d hd
    cases draw with
    | true =>
      simp only [if_true] at e
      cases er : drawOps P call nt ops (Region.before ops) ops.toList 0 ⟨[], [], []⟩ t h with
      | ok t1 h1 =>
        rw [er] at e
        cases e
        exact draw_keeps _ _ _ _ _ _ _ er (hdst hd)
      | pan v h1 => rw [er] at e; cases e
      | fail => rw [er] at e; cases e
    | false =>
      simp only [Bool.false_eq_true, if_false] at e
      cases er : seqOps P call nt ops ops.toList t h with
      | ok t1 h1 =>
        rw [er] at e
        cases e
        exact seq_keeps _ _ _ _ _ er (hdst hd)
      | pan v h1 => rw [er] at e; cases e
      | fail => rw [er] at e; cases e
  · cases draw with
    | true =>
      simp only [if_true] at hne' post ⊢
      intro ρ a w hT H hf g hg
      refine wp_mono (wp_region_any hm (drawOps_ok (w := w.drew) hc (hsl rfl) hne' hT H.drew hf g)) fun e a' w' k => ?_
      exact XPost.lift St.drew (post k)
    | false =>
      simp only [Bool.false_eq_true, if_false] at hne' post ⊢
      intro ρ a w hT H hf g hg
      have hs := seqOps_ok hc ops.toList 0 t h ρ a w (fun j => by simp) hne' hT H hf g (fun d => (hg d).imp_right fun q => ⟨q.1, hdst q.2⟩)
      rw [Array.length_toList, ← List.range_eq_range'] at hs
      exact wp_mono (wp_region hs) fun e a' w' k => post k

theorem wr_seq {x y : Code} {d : Nat} (h : wr (.seq x y) d = false) : wr x d = false ∧ wr y d = false := by
  simp only [wr, Bool.or_eq_false_iff] at h; exact h

theorem seqc_ok {x y : Code} {f g : T → Heap → Res (Ex × T)} (hx : CodeOk P n0 w0 nt x f) (hy : CodeOk P n0 w0 nt y g) :
    CodeOk P n0 w0 nt (.seq x y) fun t h => (f t h).bind fun r h' => match r with
      | (.normal, t') => g t' h'
      | r => .ok r h' := by
  intro t h hne
  dsimp only at hne ⊢
  have hfne : f t h ≠ .fail := fun q => hne (by rw [q]; rfl)
  obtain ⟨n1, e1, k1⟩ := hx t h hfne
  have sx : ∀ d, wr (.seq x y) d = false → wr x d = false := fun d q => (wr_seq q).1
  have sy : ∀ d, wr (.seq x y) d = false → wr y d = false := fun d q => (wr_seq q).2
  cases hr : f t h with
  | fail => exact absurd hr hfne
  | pan v h1 =>
    rw [hr] at hne n1 k1
    refine ⟨n1, fun ex t' h' e => (by cases e), fun ρ a w hT H hf gg hg => wp_seq (wp_mono (k1 ρ a w hT H hf gg (hg.sub sx)) fun e a' w' k => ?_)⟩
    obtain ⟨hd, ρ', v', rfl, q⟩ := k
    exact ⟨hd, ρ', v', rfl, q⟩
  | ok p h1 =>
    obtain ⟨ex, t1⟩ := p
    have e1 := e1 ex t1 h1 hr
    rw [hr] at hne n1 k1
    cases ex with
    | normal =>
      simp only [Res.bind] at hne ⊢
      obtain ⟨n2, e2, k2⟩ := hy t1 h1 hne
      refine ⟨Gr.res n1 n2, fun ex t' h' e d hd => by rw [e2 _ _ _ e d (sy d hd), e1 d (sx d hd)], fun ρ a w hT H hf gg hg => wp_seq (wp_mono (k1 ρ a w hT H (hf.sub (Nat.le_refl _) n2.1) gg (hg.sub sx)) fun e a' w' k => ?_)⟩
      obtain ⟨rfl, hd, ρ', hT', H', S⟩ := k
      have := k2 ρ' a' w' hT' H' (Fr.step S hf) gg (hg.go (fun d q => e1 d (sx d q)) sy)
      rw [hd] at this
      exact wp_mono this fun e a2 w2 q => XPost.lift S q
    | exit id =>
      refine ⟨n1, fun ex t' h' e d hd => by cases e; exact e1 d (sx d hd), fun ρ a w hT H hf gg hg => wp_seq (wp_mono (k1 ρ a w hT H hf gg (hg.sub sx)) fun e a' w' k => ?_)⟩
      obtain ⟨rfl, q⟩ := k
      exact ⟨rfl, q⟩
    | ret =>
      refine ⟨n1, fun ex t' h' e d hd => by cases e; exact e1 d (sx d hd), fun ρ a w hT H hf gg hg => wp_seq (wp_mono (k1 ρ a w hT H hf gg (hg.sub sx)) fun e a' w' k => ?_)⟩
      obtain ⟨rfl, q⟩ := k
      exact ⟨rfl, q⟩

theorem block_ok {x : Code} {id : Nat} {f : T → Heap → Res (Ex × T)} (hx : CodeOk P n0 w0 nt x f) :
    CodeOk P n0 w0 nt (.block id x) fun t h => (f t h).bind fun r h' => match r with
      | (.exit i, t') => if i = id then .ok (.normal, t') h' else .ok (.exit i, t') h'
      | r => .ok r h' := by
  intro t h hne
  dsimp only at hne ⊢
  have hfne : f t h ≠ .fail := fun q => hne (by rw [q]; rfl)
  obtain ⟨n1, e1, k1⟩ := hx t h hfne
  have sx : ∀ d, wr (.block id x) d = false → wr x d = false := fun d q => q
  cases hr : f t h with
  | fail => exact absurd hr hfne
  | pan v h1 =>
    rw [hr] at hne n1 k1
    refine ⟨n1, fun ex t' h' e => (by cases e), fun ρ a w hT H hf gg hg => wp_block (wp_mono (k1 ρ a w hT H hf gg (hg.sub sx)) fun e a' w' k => ?_)⟩
    obtain ⟨hd, ρ', v', rfl, q⟩ := k
    exact ⟨hd, ρ', v', rfl, q⟩
  | ok p h1 =>
    obtain ⟨ex, t1⟩ := p
    have e1 := e1 ex t1 h1 hr
    rw [hr] at hne n1 k1
    cases ex with
    | normal =>
      refine ⟨n1, fun ex t' h' e d hd => by cases e; exact e1 d hd, fun ρ a w hT H hf gg hg => wp_block (wp_mono (k1 ρ a w hT H hf gg (hg.sub sx)) fun e a' w' k => ?_)⟩
      obtain ⟨rfl, q⟩ := k
      exact ⟨rfl, q⟩
    | exit i =>
      simp only [Res.bind] at hne ⊢
      by_cases hi : i = id
      · rw [if_pos hi] at hne ⊢
        refine ⟨n1, fun ex t' h' e d hd => by cases e; exact e1 d hd, fun ρ a w hT H hf gg hg => wp_block (wp_mono (k1 ρ a w hT H hf gg (hg.sub sx)) fun e a' w' k => ?_)⟩
        obtain ⟨rfl, q⟩ := k
        show (if i = id then _ else _)
        rw [if_pos hi]
        exact ⟨rfl, q⟩
      · rw [if_neg hi] at hne ⊢
        refine ⟨n1, fun ex t' h' e d hd => by cases e; exact e1 d hd, fun ρ a w hT H hf gg hg => wp_block (wp_mono (k1 ρ a w hT H hf gg (hg.sub sx)) fun e a' w' k => ?_)⟩
        obtain ⟨rfl, q⟩ := k
        show (if i = id then _ else _)
        rw [if_neg hi]
        exact ⟨rfl, q⟩
    | ret =>
      refine ⟨n1, fun ex t' h' e d hd => by cases e; exact e1 d hd, fun ρ a w hT H hf gg hg => wp_block (wp_mono (k1 ρ a w hT H hf gg (hg.sub sx)) fun e a' w' k => ?_)⟩
      obtain ⟨rfl, q⟩ := k
      exact ⟨rfl, q⟩

theorem loop_next {x : Code} {f : T → Heap → Res (Ex × T)} (hx : CodeOk P n0 w0 nt x f) : ∀ (n : Nat) (t : T) (h : Heap), loopN f n t h ≠ .fail → GrR h (loopN f n t h) ∧ ∀ ex t' h', loopN f n t h = .ok (ex, t') h' → ∀ d, wr x d = false → t' d = t d
  | 0, t, h, hne => absurd rfl hne
  | n + 1, t, h, hne => by
    simp only [loopN] at hne ⊢
    have hfne : f t h ≠ .fail := fun q => hne (by rw [q]; rfl)
    obtain ⟨n1, e1, _⟩ := hx t h hfne
    cases hr : f t h with
    | fail => exact absurd hr hfne
    | pan v h1 => rw [hr] at n1; exact ⟨n1, fun ex t' h' e => (by cases e)⟩
    | ok p h1 =>
      obtain ⟨ex, t1⟩ := p
      have e1 := e1 ex t1 h1 hr
      rw [hr] at hne n1
      cases ex with
      | normal =>
        obtain ⟨a, b⟩ := loop_next hx n t1 h1 hne
        exact ⟨Gr.res n1 a, fun ex t' h' e d hd => by rw [b _ _ _ e d hd, e1 d hd]⟩
      | exit id => exact ⟨n1, fun ex t' h' e d hd => by cases e; exact e1 d hd⟩
      | ret => exact ⟨n1, fun ex t' h' e d hd => by cases e; exact e1 d hd⟩

theorem loop_rounds {x : Code} {f : T → Heap → Res (Ex × T)} (hx : CodeOk P n0 w0 nt x f) : ∀ (n : Nat) (t : T) (h : Heap), loopN f n t h ≠ .fail → ∀ ρ a w, RT n0 ρ nt t a.tmps → HR n0 w0 ρ h w → Fr ρ h.next (loopN f n t h).nxt →
    ∀ g, GOk x t g → ∀ Q : Exit → Act → World → Prop, (∀ e a' w', XPost n0 w0 nt ρ h w a.defers g (loopN f n t h) e a' w' → Q e a' w') → Code.rounds P x Q n a w
  | 0, t, h, hne, _, _, _, _, _, _, _, _, _, _ => absurd rfl hne
  | n + 1, t, h, hne, ρ, a, w, hT, H, hf, g, hg, Q, hQ => by
    rw [rounds_succ]
    simp only [loopN] at hne hf hQ
    have hfne : f t h ≠ .fail := fun q => hne (by rw [q]; rfl)
    obtain ⟨n1, e1, k1⟩ := hx t h hfne
    cases hr : f t h with
    | fail => exact absurd hr hfne
    | pan v h1 =>
      rw [hr] at hne n1 k1 hf hQ
      refine wp_mono (k1 ρ a w hT H hf g hg) fun e a' w' k => ?_
      obtain ⟨hd, ρ', v', rfl, q⟩ := k
      exact hQ _ _ _ ⟨hd, ρ', v', rfl, q⟩
    | ok p h1 =>
      obtain ⟨ex, t1⟩ := p
      have e1 := e1 ex t1 h1 hr
      rw [hr] at hne n1 k1 hf hQ
      cases ex with
      | normal =>
        have n2 := (loop_next hx n t1 h1 hne).1
        refine wp_mono (k1 ρ a w hT H (hf.sub (Nat.le_refl _) n2.1) g hg) fun e a' w' k => ?_
        obtain ⟨rfl, hd, ρ', hT', H', S⟩ := k
        exact loop_rounds hx n t1 h1 hne ρ' a' w' hT' H' (Fr.step S hf) g (hg.go e1 fun _ q => q) Q fun e a2 w2 q => hQ _ _ _ (XPost.lift S (by rw [hd] at q; exact q))
      | exit id =>
        refine wp_mono (k1 ρ a w hT H hf g hg) fun e a' w' k => ?_
        obtain ⟨rfl, q⟩ := k
        exact hQ _ _ _ ⟨rfl, q⟩
      | ret =>
        refine wp_mono (k1 ρ a w hT H hf g hg) fun e a' w' k => ?_
        obtain ⟨rfl, q⟩ := k
        exact hQ _ _ _ ⟨rfl, q⟩

theorem exec_ok (hm : P.follows .mixedOrders = true) {call : FuncId → List AVal → Heap → Res AVal} (hc : CallOk P n0 w0 call) (fuel : Nat) : ∀ c : Code, codeSlots c = true → CodeOk P n0 w0 nt c (exec P call fuel nt c)
  | .skip => fun _ t h _ => ⟨Gr.refl _, fun _ _ _ e _ _ => by cases e; rfl, fun ρ a w hT H _ _ _ => wp_skip ⟨rfl, rfl, ρ, hT, H, St.refl⟩⟩
  | .label l => fun _ t h _ => ⟨Gr.refl _, fun _ _ _ e _ _ => by cases e; rfl, fun ρ a w hT H _ _ _ => wp_label ⟨rfl, rfl, ρ, hT, H, St.refl⟩⟩
  | .region id ops draw => fun hs => region_ok hm hc id ops draw fun q => by subst q; exact hs
  | .seq x y => fun hs => by
    simp only [codeSlots, Bool.and_eq_true] at hs
    exact seqc_ok (exec_ok hm hc fuel x hs.1) (exec_ok hm hc fuel y hs.2)
  | .cond c x y => by
    intro hs t h hne
    simp only [codeSlots, Bool.and_eq_true] at hs
    simp only [exec] at hne ⊢
    have sx : ∀ d, wr (.cond c x y) d = false → wr x d = false ∧ wr y d = false := fun d q => by simp only [wr, Bool.or_eq_false_iff] at q; exact q
    cases hev : aEval t c with
    | bool b =>
      rw [hev] at hne
      cases b with
      | true =>
        obtain ⟨n1, e1, k1⟩ := exec_ok hm hc fuel x hs.1 t h hne
        refine ⟨n1, fun ex t' h' e d hd => e1 ex t' h' e d (sx d hd).1, fun ρ a w hT H hf g hg => ?_⟩
        have := hT.eval c
        rw [hev] at this
        cases hv : a.eval c with
        | bool b => rw [hv] at this; cases this; exact wp_cond_true hv (k1 ρ a w hT H hf g (hg.sub fun d q => (sx d q).1))
        | _ => rw [hv] at this; cases this
      | false =>
        obtain ⟨n1, e1, k1⟩ := exec_ok hm hc fuel y hs.2 t h hne
        refine ⟨n1, fun ex t' h' e d hd => e1 ex t' h' e d (sx d hd).2, fun ρ a w hT H hf g hg => ?_⟩
        have := hT.eval c
        rw [hev] at this
        cases hv : a.eval c with
        | bool b => rw [hv] at this; cases this; exact wp_cond_false hv (k1 ρ a w hT H hf g (hg.sub fun d q => (sx d q).2))
        | _ => rw [hv] at this; cases this
    | _ => rw [hev] at hne; exact absurd rfl hne
  | .block id x => fun hs => block_ok (exec_ok hm hc fuel x hs)
  | .loop x => by
    intro hs t h hne
    simp only [exec] at hne ⊢
    obtain ⟨a1, a2⟩ := loop_next (exec_ok hm hc fuel x hs) fuel t h hne
    refine ⟨a1, fun ex t' h' e d hd => a2 ex t' h' e d hd, fun ρ a w hT H hf g hg => ?_⟩
    exact wp_loop_rounds fuel (loop_rounds (exec_ok hm hc fuel x hs) fuel t h hne ρ a w hT H hf g (fun d => hg d) _ fun e a' w' k => k)
  | .scope x => by
    intro hs t h hne
    simp only [exec] at hne ⊢
    obtain ⟨n1, e1, k1⟩ := exec_ok hm hc fuel x hs t h hne
    refine ⟨n1, fun ex t' h' e d hd => e1 ex t' h' e d hd, fun ρ a w hT H hf g hg => wp_scope_straight (wp_mono (k1 ρ a w hT H hf g (fun d => hg d)) fun e a' w' k => ?_)⟩
    cases hr : exec P call fuel nt x t h with
    | fail => exact absurd hr hne
    | pan v h1 =>
      rw [hr] at k
      obtain ⟨hd, ρ', v', rfl, q⟩ := k
      exact ⟨hd, ρ', v', rfl, q⟩
    | ok p h1 =>
      obtain ⟨ex, t1⟩ := p
      rw [hr] at k
      obtain ⟨rfl, q⟩ := k
      cases ex <;> exact ⟨rfl, q⟩
  | .exit id => fun _ t h _ => ⟨Gr.refl _, fun _ _ _ e _ _ => by cases e; rfl, fun ρ a w hT H _ _ _ => wp_exit ⟨rfl, rfl, ρ, hT, H, St.refl⟩⟩
  | .ret => fun _ t h _ => ⟨Gr.refl _, fun _ _ _ e _ _ => by cases e; rfl, fun ρ a w hT H _ _ _ => wp_ret ⟨rfl, rfl, ρ, hT, H, St.refl⟩⟩
  | .rangeFunc .. => fun _ t h hne => absurd rfl hne
  | .goto _ => fun _ t h hne => absurd rfl hne
  | .refuse _ => fun _ t h hne => absurd rfl hne

theorem enter_ok {ρ : Ren} {args : List AVal} {args' : List Value} (k : VRs n0 ρ args args') (m : Nat) : RT n0 ρ (args.length + m) (enterT args) (args'.toArray ++ Array.replicate m undef) := by
  have hl := k.length
  refine ⟨by simp; omega, fun i => ?_⟩
  unfold enterT
  rw [Array.getD_eq_getD_getElem?]
  cases hi : args[i]? with
  | some v =>
    obtain ⟨v', h1, h2⟩ := k.get hi
    have hlt : i < args'.length := (List.getElem?_eq_some_iff.1 h1).1
    rw [Array.getElem?_append_left (by simpa using hlt)]
    simp only [List.getElem?_toArray, h1, Option.getD_some]
    exact h2
  | none =>
    have hge : args'.length ≤ i := by rw [← hl]; exact List.getElem?_eq_none_iff.1 hi
    rw [Array.getElem?_append_right (by simpa using hge), Array.getElem?_replicate]
    have : (if i - args'.toArray.size < m then some undef else none).getD undef = undef := by split <;> rfl
    rw [this]
    exact VR.undef

def resV (tmps : Array Value) : ResultVar → Sem Value
  | .tmp t => pure (tmps.getD t undef)
  | .cell a t => do loadVar t (← asAddr (tmps.getD a undef))

theorem result_ok {ρ : Ren} {h : Heap} {w : World} {t : T} {tmps : Array Value} (hT : RT n0 ρ nt t tmps) (H : HR n0 w0 ρ h w) {r : ResultVar} {v : AVal} (e : aResult P t h r = some v) :
    ∃ v', (resV tmps r).run P w = .ok v' w ∧ VR n0 ρ v v' := by
  cases r with
  | tmp i => simp only [aResult, Option.some.injEq] at e; subst e; exact ⟨_, rfl, hT.at_ i⟩
  | cell a ty =>
    simp only [aResult] at e
    obtain ⟨v', h1, h2⟩ := load_ok (P := P) e (hT.at_ a) H
    refine ⟨v', ?_, h2⟩
    have hk := hT.at_ a
    simp only [resV]
    cases hta : t a with
    | ptr b off =>
      rw [hta] at hk
      generalize tmps.getD a undef = u at hk h1 ⊢
      cases hk
      simpa [Instr.loadAt, Instr.sureAddr, asAddr] using h1
    | _ => rw [hta] at e; simp [aLoad] at e

theorem resultL_ok {ρ : Ren} {h : Heap} {w : World} {t : T} {tmps : Array Value} (hT : RT n0 ρ nt t tmps) (H : HR n0 w0 ρ h w) : ∀ {rs : List ResultVar} {l : List AVal}, aResultL P t h rs = some l →
    ∃ l', (rs.mapM fun r => (resV tmps r)).run P w = .ok l' w ∧ VRs n0 ρ l l'
  | [], l, e => by simp only [aResultL, Option.some.injEq] at e; subst e; exact ⟨[], rfl, .nil⟩
  | r :: rs, l, e => by
    simp only [aResultL] at e
    split at e
    · rename_i v l2 h1 h2
      cases e
      obtain ⟨v', a1, a2⟩ := result_ok hT H h1
      obtain ⟨l', b1, b2⟩ := resultL_ok hT H h2
      refine ⟨v' :: l', ?_, .cons a2 b2⟩
      rw [List.mapM_cons]
      simp only [Sem.run_bind, a1, b1, Result.andThen_ok, Sem.run_pure]
    · cases e

theorem results_ok {ρ : Ren} {h : Heap} {w : World} {t : T} {tmps : Array Value} (hT : RT n0 ρ nt t tmps) (H : HR n0 w0 ρ h w) {fn : Func} {v : AVal} (e : aResults P fn t h = some v) :
    ∃ v', (results fn tmps).run P w = .ok v' w ∧ VR n0 ρ v v' := by
  unfold aResults at e
  have hrun : ∀ {l' : List Value}, (fn.results.toList.mapM fun r => (resV tmps r)).run P w = .ok l' w →
      (results fn tmps).run P w = .ok (if h : l'.toArray.size = 1 then l'.toArray[0] else .tuple l'.toArray) w := by
    intro l' hl
    have hd : results fn tmps = (do let vs ← fn.results.mapM (resV tmps); pure (if h : vs.size = 1 then vs[0] else .tuple vs)) := rfl
    rw [hd, Array.mapM_eq_mapM_toList]
    simp only [Sem.run_bind, Sem.run_map]
    rw [hl]
    rfl
  split at e
  · rename_i v1 h1
    cases e
    obtain ⟨l', a1, a2⟩ := resultL_ok hT H h1
    cases a2 with
    | cons b c => cases c; exact ⟨_, hrun a1, b⟩
  · rename_i l hne h1
    cases e
    obtain ⟨l', a1, a2⟩ := resultL_ok hT H h1
    have hl := a2.length
    have hne1 : l'.toArray.size ≠ 1 := fun q => by
      rw [List.size_toArray, ← hl] at q
      match l, q with
      | [x], _ => exact hne x rfl
    refine ⟨_, hrun a1, ?_⟩
    rw [dif_neg hne1]
    exact .tup a2
  · cases e

theorem body_wp (hm : P.follows .mixedOrders = true) {call : FuncId → List AVal → Heap → Res AVal} (hc : CallOk P n0 w0 call) (fuel : Nat) {fn : Func} {c : Code} (hb : fn.body = some c) (hsl : codeSlots c = true) (args : List AVal) (h : Heap)
    (hne : body P call fuel fn args h ≠ .fail) : GrR h (body P call fuel fn args h) ∧ ∀ ρ w args', VRs n0 ρ args args' → HR n0 w0 ρ h w → Fr ρ h.next (body P call fuel fn args h).nxt →
    c.wp P (bodyPost P fn (CPost n0 w0 ρ h w (body P call fuel fn args h))) { tmps := args'.toArray ++ Array.replicate (fn.ntmps - args'.toArray.size) undef, defers := [] } w := by
  unfold body at hne ⊢
  rw [hb] at hne ⊢
  dsimp only at hne ⊢
  · skip
    have hxne : exec P call fuel (args.length + (fn.ntmps - args.length)) c (enterT args) h ≠ .fail := fun q => hne (by rw [q]; rfl)
    obtain ⟨n1, _, k1⟩ := exec_ok (nt := args.length + (fn.ntmps - args.length)) hm hc fuel c hsl (enterT args) h hxne
    have k1 := fun ρ a w hT H hf => k1 ρ a w hT H hf _ (fg_ok c (enterT args))
    have start : ∀ {ρ : Ren} {w : World} {args' : List Value}, VRs n0 ρ args args' → HR n0 w0 ρ h w → Fr ρ h.next (exec P call fuel (args.length + (fn.ntmps - args.length)) c (enterT args) h).nxt → ∀ {R : Ending → World → Prop},
        (∀ e a' w', XPost n0 w0 (args.length + (fn.ntmps - args.length)) ρ h w [] (fg c (enterT args)) (exec P call fuel (args.length + (fn.ntmps - args.length)) c (enterT args) h) e a' w' → bodyPost P fn R e a' w') → c.wp P (bodyPost P fn R) { tmps := args'.toArray ++ Array.replicate (fn.ntmps - args'.toArray.size) undef, defers := [] } w := by
      intro ρ w args' ha H hf R hR
      have hl := ha.length
      have := k1 ρ ⟨args'.toArray ++ Array.replicate (fn.ntmps - args'.toArray.size) undef, []⟩ w (by
        have := enter_ok ha (fn.ntmps - args.length)
        rw [List.size_toArray, ← hl]; exact this) H hf
      exact wp_mono this hR
    cases hr : exec P call fuel (args.length + (fn.ntmps - args.length)) c (enterT args) h with
    | fail => exact absurd hr hxne
    | pan v h1 =>
      rw [hr] at n1 start
      refine ⟨n1, fun ρ w args' ha H hf => start ha H hf fun e a' w' k => ?_⟩
      obtain ⟨hd, ρ', v', rfl, q1, _, q2⟩ := k
      exact ⟨hd, ρ', v', rfl, q1, q2⟩
    | ok p h1 =>
      obtain ⟨ex, t1⟩ := p
      rw [hr] at n1 start hne
      simp only [Res.bind] at hne ⊢
      cases ex with
      | exit id => exact absurd rfl hne
      | normal =>
        dsimp only at hne ⊢
        cases hres : aResults P fn t1 h1 with
        | none => rw [hres] at hne; exact absurd rfl hne
        | some v =>
          refine ⟨n1, fun ρ w args' ha H hf => start ha H hf fun e a' w' k => ?_⟩
          obtain ⟨rfl, hd, ρ', hT', H', S⟩ := k
          obtain ⟨v', r1, r2⟩ := results_ok (P := P) hT' H' hres
          exact ⟨hd, v', r1, ρ', v', rfl, r2, H', S⟩
      | ret =>
        dsimp only at hne ⊢
        cases hres : aResults P fn t1 h1 with
        | none => rw [hres] at hne; exact absurd rfl hne
        | some v =>
          refine ⟨n1, fun ρ w args' ha H hf => start ha H hf fun e a' w' k => ?_⟩
          obtain ⟨rfl, hd, ρ', hT', H', S⟩ := k
          obtain ⟨v', r1, r2⟩ := results_ok (P := P) hT' H' hres
          exact ⟨hd, v', r1, ρ', v', rfl, r2, H', S⟩


theorem body_ok (hm : P.follows .mixedOrders = true) {call : FuncId → List AVal → Heap → Res AVal} (hc : CallOk P n0 w0 call) (fuel : Nat) {f : FuncId} {fn : Func} (hfn : P.funcs[f]? = some fn) (hsl : ∀ c, fn.body = some c → codeSlots c = true) (args : List AVal) (h : Heap)
    (hne : body P call fuel fn args h ≠ .fail) : GrR h (body P call fuel fn args h) ∧ ∀ ρ w args', VRs n0 ρ args args' → HR n0 w0 ρ h w → Fr ρ h.next (body P call fuel fn args h).nxt →
    Calls P f args'.toArray w (CPost n0 w0 ρ h w (body P call fuel fn args h)) := by
  cases hb : fn.body with
  | none => unfold body at hne; rw [hb] at hne; exact absurd rfl hne
  | some c =>
    obtain ⟨n1, k1⟩ := body_wp hm hc fuel hb (hsl c hb) args h hne
    exact ⟨n1, fun ρ w args' ha H hf => calls_of_wp hfn hb (k1 ρ w args' ha H hf)⟩

end
end Go.Ab
