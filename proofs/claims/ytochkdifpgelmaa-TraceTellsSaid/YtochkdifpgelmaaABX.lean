/-
  The abstract machine with a table of functions whose answers are known: what it tells, the model does.
-/
import Derived.Test.YtochkdifpgelmaaABEnd
set_option linter.unusedVariables false
set_option linter.unusedSimpArgs false
namespace Go.Ab
open Go.RowKit

abbrev XTab := FuncId → List AVal → Option AVal

/-- The machine's calls, where X tells of some functions what they answer. -/
def acallX (P : Program) (X : XTab) : Nat → FuncId → List AVal → Heap → Res AVal
  | 0, _, _, _ => .fail
  | n + 1, f, args, h => match X f args with
    | some v => .ok v h
    | none => match P.funcs[f]? with
      | none => .fail
      | some fn => bodyA P (acallX P X n) n fn args h

/-- What the table tells is so, in every world. -/
def XOk (P : Program) (X : XTab) : Prop := ∀ f args v, X f args = some v → ∃ l v', AVal.toVs args = some l ∧ AVal.toV v = some v' ∧
  ∀ w : World, Calls P f l.toArray w fun e w' => e = .returned v' ∧ Below w.heap.size w w'

mutual
theorem toV_VR {n0 : Nat} {ρ : Ren} : ∀ {v : AVal} {x : Value}, v.toV = some x → VR n0 ρ v x
  | .bool _, _, e => by simp only [AVal.toV, Option.some.injEq] at e; subst e; constructor
  | .int _ _, _, e => by simp only [AVal.toV, Option.some.injEq] at e; subst e; constructor
  | .flt _ _, _, e => by simp only [AVal.toV, Option.some.injEq] at e; subst e; constructor
  | .str _, _, e => by simp only [AVal.toV, Option.some.injEq] at e; subst e; constructor
  | .nilp, _, e => by simp only [AVal.toV, Option.some.injEq] at e; subst e; constructor
  | .ptr _ _, _, e => by simp [AVal.toV] at e
  | .nils, _, e => by simp only [AVal.toV, Option.some.injEq] at e; subst e; constructor
  | .sl .., _, e => by simp [AVal.toV] at e
  | .fn .., _, e => by simp [AVal.toV] at e
  | .nilf, _, e => by simp only [AVal.toV, Option.some.injEq] at e; subst e; constructor
  | .iface t v, _, e => by
    simp only [AVal.toV] at e
    split at e
    · rename_i x hx; cases e; exact .iface (toV_VR hx)
    · cases e
  | .nili, _, e => by simp only [AVal.toV, Option.some.injEq] at e; subst e; constructor
  | .agg cs, _, e => by
    simp only [AVal.toV] at e
    split at e
    · rename_i x hx; cases e; exact .agg (toVs_VRs hx)
    · cases e
  | .tup cs, _, e => by
    simp only [AVal.toV] at e
    split at e
    · rename_i x hx; cases e; exact .tup (toVs_VRs hx)
    · cases e
  | .opq, _, e => by simp [AVal.toV] at e
theorem toVs_VRs {n0 : Nat} {ρ : Ren} : ∀ {v : List AVal} {x : List Value}, AVal.toVs v = some x → VRs n0 ρ v x
  | [], _, e => by simp only [AVal.toVs, Option.some.injEq] at e; subst e; exact .nil
  | v :: r, _, e => by
    simp only [AVal.toVs] at e
    split at e
    · rename_i x y hx hy; cases e; exact .cons (toV_VR hx) (toVs_VRs hy)
    · cases e
end

section
variable {n0 : Nat} {w0 : World} {ρ : Ren} {h : Heap} {w w' : World} {P : Program} {X : XTab}

theorem HR.later (H : HR n0 w0 ρ h w) (hB : Below w.heap.size w w') : HR n0 w0 ρ h w' where
  hn := H.hn
  hN := H.hN
  base := fun b cs hb e => by
    obtain ⟨C, ee, fz, h1, h2⟩ := H.base b cs hb e
    exact ⟨C, ee, fz, (hB.block b (Array.getElem?_eq_some_iff.1 h1).1).trans h1, h2⟩
  new := fun b cs hb e => by
    obtain ⟨l, C, ee, fz, h1, h2, h3, h4⟩ := H.new b cs hb e
    exact ⟨l, C, ee, fz, h1, h2, h3.keep (hB.block _ h3.lt), h4⟩
  inj := H.inj
  below := H.below.trans (hB.mono H.below.size)

theorem St.later (H : HR n0 w0 ρ h w) (hB : Below w.heap.size w w') : St n0 ρ h w ρ h w' :=
  ⟨ρ.le_refl, fun _ e => .inl e, Nat.le_refl _, hB.size, fun c hc k => ⟨hB.block c hc, k⟩⟩

theorem acallX_ok (hm : P.follows .mixedOrders = true) (hs : progSlots P = true) (hX : XOk P X) : ∀ n : Nat, CallOk P n0 w0 (acallX P X n)
  | 0 => fun f args h hne => absurd rfl hne
  | n + 1 => fun f args h hne => by
    simp only [acallX] at hne ⊢
    cases hx : X f args with
    | some v =>
      refine ⟨⟨Nat.le_refl _, rfl, fun _ _ => rfl⟩, fun ρ w args' ha H hf => ?_⟩
      obtain ⟨l, v', h1, h2, h3⟩ := hX f args v hx
      have hl : args' = l := toVs_eq h1 ha
      subst hl
      refine (h3 w).mono fun e w' ⟨he, hB⟩ => ?_
      exact ⟨ρ, v', he, toV_VR h2, H.later hB, St.later H hB⟩
    | none =>
      rw [hx] at hne
      simp only at hne ⊢
      cases hfn : P.funcs[f]? with
      | none => rw [hfn] at hne; exact absurd rfl hne
      | some fn =>
        rw [hfn] at hne
        exact bodyA_ok hm (acallX_ok hm hs hX n) n hfn (fun g fn c hg hb => progSlots_at hs hg hb) args h hne

theorem calls_of_acallX (hm : P.follows .mixedOrders = true) (hs : progSlots P = true) (hX : XOk P X) {n : Nat} {f : FuncId} {args : List Value} {w : World}
    (h : okTrue (acallX P X n f (ofVs w.heap.size args) (Heap.ofW w)) = true) : Calls P f args.toArray w fun e w' => e = .returned (.bool true) ∧ Below w.heap.size w w' := by
  cases hr : acallX P X n f (ofVs w.heap.size args) (Heap.ofW w) with
  | ok v h' =>
    rw [hr] at h
    have hv : v = .bool true := by unfold okTrue at h; split at h <;> simp_all
    subst hv
    obtain ⟨_, k⟩ := acallX_ok (n0 := w.heap.size) (w0 := w) hm hs hX n f (ofVs w.heap.size args) (Heap.ofW w) (by rw [hr]; simp)
    refine (k (fun _ => none) w args (ofVs_VRs _ (Nat.le_refl _) args) (ofW_HR w) fun _ _ _ => rfl).mono fun e w' q => ?_
    rw [hr] at q
    obtain ⟨ρ', v', rfl, q2, q3, _⟩ := q
    cases q2
    exact ⟨rfl, q3.below⟩
  | _ => rw [hr] at h; cases h

/-- The table that tells one closed law to be true. -/
def XTab.one (k : FuncId) : XTab := fun f args => if f = k then (match args with | [] => some (.bool true) | _ => none) else none

theorem XOk.one (hm : P.follows .mixedOrders = true) (hs : progSlots P = true) {n k : Nat} (h : okTrue (acall P n k [] Heap.empty) = true) : XOk P (XTab.one k) := by
  intro f args v e
  unfold XTab.one at e
  split at e
  · rename_i hf; subst hf
    cases args with
    | nil => cases e; exact ⟨[], .bool true, rfl, rfl, fun w => calls_of_closed hm hs h w⟩
    | cons a r => cases e
  · cases e

end
end Go.Ab
