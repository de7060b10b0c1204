/-
  What is told from some fuel on, where it may end in a panic.
-/
import Derived.Test.YtepdlgcoehpnbaaABT
set_option linter.unusedVariables false
set_option linter.unusedSimpArgs false
namespace Go.Ab

/-- Q of what it ends with, V of what it panics with. -/
def Good {α : Type} (V : AVal → Heap → Prop) (Q : α → Heap → Prop) : Res α → Prop
  | .ok a h => Q a h
  | .pan v h => V v h
  | .fail => False
def TellsV {α : Type} (V : AVal → Heap → Prop) (r : Nat → Res α) (Q : α → Heap → Prop) : Prop := ∃ x, Good V Q x ∧ ∃ N, ∀ m, N ≤ m → r m = x

section
variable {α β : Type} {V : AVal → Heap → Prop} {Q : β → Heap → Prop}

theorem TV.of {r : Nat → Res β} (k : Tells r Q) : TellsV V r Q := by
  obtain ⟨a, h, q, N, e⟩ := k; exact ⟨.ok a h, q, N, e⟩
theorem TV.no {r : Nat → Res β} (k : TellsV (fun _ _ => False) r Q) : Tells r Q := by
  obtain ⟨x, q, N, e⟩ := k
  cases x with
  | ok a h => exact ⟨a, h, q, N, e⟩
  | pan v h => exact q.elim
  | fail => exact q.elim
theorem TV.ok {Q : α → Heap → Prop} {a : α} {h : Heap} (k : Q a h) : TellsV V (fun _ => .ok a h) Q := ⟨.ok a h, k, 0, fun _ _ => rfl⟩
theorem TV.pan {Q : α → Heap → Prop} {v : AVal} {h : Heap} (k : V v h) : TellsV V (fun _ => .pan v h) Q := ⟨.pan v h, k, 0, fun _ _ => rfl⟩
theorem TV.mono {V W : AVal → Heap → Prop} {Q R : α → Heap → Prop} {r : Nat → Res α} (k : TellsV V r Q) (f : ∀ a h, Q a h → R a h) (g : ∀ v h, V v h → W v h) : TellsV W r R := by
  obtain ⟨x, q, N, e⟩ := k
  cases x with
  | ok a h => exact ⟨.ok a h, f a h q, N, e⟩
  | pan v h => exact ⟨.pan v h, g v h q, N, e⟩
  | fail => exact q.elim
theorem TV.bind {W : AVal → Heap → Prop} {R : α → Heap → Prop} {r : Nat → Res α} {g : Nat → α → Heap → Res β} (k : TellsV W r R) (hw : ∀ v h, W v h → V v h) (f : ∀ a h, R a h → TellsV V (fun m => g m a h) Q) : TellsV V (fun m => (r m).bind (g m)) Q := by
  obtain ⟨x, q, N, e⟩ := k
  cases x with
  | fail => exact q.elim
  | pan v h => exact ⟨.pan v h, hw v h q, N, fun m hm => by simp only [e m hm, Res.bind]⟩
  | ok a h =>
    obtain ⟨b, q', N', e'⟩ := f a h q
    exact ⟨b, q', max N N', fun m hm => by
      have hm : N ≤ m ∧ N' ≤ m := Nat.max_le.1 hm
      simp only [e m hm.1, Res.bind]; exact e' m hm.2⟩
theorem TV.bindT {R : α → Heap → Prop} {r : Nat → Res α} {g : Nat → α → Heap → Res β} (k : Tells r R) (f : ∀ a h, R a h → TellsV V (fun m => g m a h) Q) : TellsV V (fun m => (r m).bind (g m)) Q :=
  TV.bind (W := fun _ _ => False) (TV.of k) (fun _ _ => False.elim) f
theorem TV.cbE {R : AVal → Heap → Prop} {r : Nat → Res AVal} {g : Nat → AVal → Heap → Res β} (k : Tells r R) (f : ∀ a h, R a h → TellsV V (fun m => g m a h) Q) : TellsV V (fun m => cbE (r m) (g m)) Q := by
  obtain ⟨a, h, q, N, e⟩ := k
  obtain ⟨b, q', N', e'⟩ := f a h q
  exact ⟨b, q', max N N', fun m hm => by
    have hm : N ≤ m ∧ N' ≤ m := Nat.max_le.1 hm
    simp only [e m hm.1, Go.Ab.cbE]; exact e' m hm.2⟩
theorem TV.le {r s : Nat → Res β} (k : TellsV V r Q) (f : ∀ m, Le (r m) (s m)) : TellsV V s Q := by
  obtain ⟨x, q, N, e⟩ := k
  refine ⟨x, q, N, fun m hm => ?_⟩
  rcases f m with k | k
  · rw [e m hm] at k; subst k; exact q.elim
  · rw [← k]; exact e m hm
theorem TV.later {r : Nat → Res β} (k : TellsV V (fun m => r (m + 1)) Q) : TellsV V r Q := by
  obtain ⟨x, q, N, e⟩ := k
  refine ⟨x, q, N + 1, fun m hm => ?_⟩
  obtain ⟨p, rfl⟩ : ∃ p, m = p + 1 := ⟨m - 1, by omega⟩
  exact e p (by omega)
theorem TV.prot {r : Nat → Res α} {Q : α → Heap → Prop} (k : ∀ V' Q', (∀ v h, V v h → V' v h) → (∀ a h, Q a h → Q' a h) → TellsV V' r Q') : TellsV V r Q := k V Q (fun _ _ q => q) fun _ _ q => q
theorem TV.ite {c : Prop} [Decidable c] {x y : Nat → Res β} (a : c → TellsV V x Q) (b : ¬ c → TellsV V y Q) : TellsV V (fun m => if c then x m else y m) Q := by
  by_cases k : c
  · simp only [if_pos k]; exact a k
  · simp only [if_neg k]; exact b k
theorem TV.cb {c : Bool} {x y : Nat → Res β} (a : c = true → TellsV V x Q) (b : c = false → TellsV V y Q) : TellsV V (fun m => cb (.bool c) (x m) (y m)) Q := by
  cases c
  · exact b rfl
  · exact a rfl

theorem TV.loop {body : Nat → T → Heap → Res (Ex × T)} {Q : Ex × T → Heap → Prop} (I : Nat → T → Heap → Prop)
    (step : ∀ n t h, I n t h → TellsV V (fun m => body m t h) fun r h' => (r.1 = .normal ∧ ∃ n', n' < n ∧ I n' r.2 h') ∨ (r.1 ≠ .normal ∧ Q r h')) :
    ∀ n t h, I n t h → TellsV V (fun m => loopN (body m) m t h) Q := by
  have gen : ∀ n, ∀ c t h, I n t h → TellsV V (fun m => loopN (body m) (m - c) t h) Q := by
    intro n
    induction n using Nat.strongRecOn with
    | _ n ih =>
      intro c t h hi
      obtain ⟨x, q, N, e⟩ := step n t h hi
      cases x with
      | fail => exact q.elim
      | pan v h' =>
        refine ⟨.pan v h', q, max N (c + 1), fun m hm => ?_⟩
        have hm : N ≤ m ∧ c + 1 ≤ m := Nat.max_le.1 hm
        obtain ⟨p, hp⟩ : ∃ p, m - c = p + 1 := ⟨m - c - 1, by omega⟩
        show loopN (body m) (m - c) t h = _
        rw [hp]
        simp only [loopN, e m hm.1, Res.bind]
      | ok r h' =>
        rcases q with ⟨hr, n', hn, hi'⟩ | ⟨hr, hq⟩
        · obtain ⟨a, q2, N2, e2⟩ := ih n' hn (c + 1) r.2 h' hi'
          refine ⟨a, q2, max (max N N2) (c + 1), fun m hm => ?_⟩
          have hm : (N ≤ m ∧ N2 ≤ m) ∧ c + 1 ≤ m := ⟨Nat.max_le.1 (Nat.max_le.1 hm).1, (Nat.max_le.1 hm).2⟩
          obtain ⟨p, hp⟩ : ∃ p, m - c = p + 1 := ⟨m - c - 1, by omega⟩
          show loopN (body m) (m - c) t h = _
          rw [hp]
          simp only [loopN, e m hm.1.1, Res.bind]
          obtain ⟨ex, t'⟩ := r
          simp only at hr; subst hr
          have h3 : loopN (body m) (m - (c + 1)) t' h' = a := e2 m hm.1.2
          rw [show m - (c + 1) = p by omega] at h3
          exact h3
        · refine ⟨.ok r h', hq, max N (c + 1), fun m hm => ?_⟩
          have hm : N ≤ m ∧ c + 1 ≤ m := Nat.max_le.1 hm
          obtain ⟨p, hp⟩ : ∃ p, m - c = p + 1 := ⟨m - c - 1, by omega⟩
          show loopN (body m) (m - c) t h = _
          rw [hp]
          simp only [loopN, e m hm.1, Res.bind]
          obtain ⟨ex, t'⟩ := r
          cases ex with
          | normal => exact absurd rfl hr
          | exit i => rfl
          | ret => rfl
  intro n t h hi
  exact gen n 0 t h hi

/-- A call of a function, whatever it tells. -/
theorem acallX_D {P : Program} {X : XTab} {f : FuncId} {fn : Func} (hf : P.funcs[f]? = some fn) {args : List AVal} (hx : X f args = none) (n : Nat) (h : Heap) :
    acallX P X (n + 1) f args h = bodyA P (acallX P X n) n fn args h := by
  simp only [acallX, hx, hf]

end
end Go.Ab
