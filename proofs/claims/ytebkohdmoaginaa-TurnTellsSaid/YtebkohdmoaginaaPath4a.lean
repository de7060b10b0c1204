/-
  What tree.Next, Kids, Side tell.
-/
import Derived.Test.YtebkohdmoaginaaTreeT
set_option linter.unusedVariables false
set_option linter.unusedSimpArgs false
namespace Go.Proofs.Ytebkohdmoaginaa
open Go.Ab

def nextF (ys : List Int) (a b : Int) : Int := if isT ys a = true ∧ isT ys b = true ∧ a ≠ b then (pathF ys a b)[1]?.getD 0 else -1
def kidsN (b : Int) : Nat → List Int → List Int
  | _, [] => []
  | i, x :: r => if x = b then ((i : Int) + 1) :: kidsN b (i + 1) r else kidsN b (i + 1) r
def kidsF (ys : List Int) (b : Int) : List Int := if isT ys b = true then kidsN b 0 ys else []
def nearF (ys : List Int) (b : Int) : List Int := if isT ys b = true then (if 0 < b then [parF ys b] else []) ++ kidsN b 0 ys else []
/-- From x on, k more: those of which p tells true. -/
def fromN (p : Int → Bool) : Nat → Int → List Int
  | 0, _ => []
  | k + 1, x => if p x = true then x :: fromN p k (x + 1) else fromN p k (x + 1)
def sideF (ys : List Int) (b n : Int) : List Int := if 0 ≤ n then fromN (fun x => decide (nextF ys b x = n)) (ys.length + 1) 0 else []

theorem kidsN_len (b : Int) : ∀ (i : Nat) (l : List Int), (kidsN b i l).length ≤ l.length
  | _, [] => by simp [kidsN]
  | i, x :: r => by
    have := kidsN_len b (i + 1) r
    simp only [kidsN]
    split <;> simp <;> omega
theorem fromN_len (p : Int → Bool) : ∀ (k : Nat) (x : Int), (fromN p k x).length ≤ k
  | 0, _ => by simp [fromN]
  | k + 1, x => by
    have := fromN_len p k (x + 1)
    simp only [fromN]
    split <;> simp <;> omega
theorem kidsN_drop {b : Int} {ys : List Int} {i : Nat} {x : Int} (hx : ys[i]? = some x) : kidsN b i (ys.drop i) = if x = b then ((i : Int) + 1) :: kidsN b (i + 1) (ys.drop (i + 1)) else kidsN b (i + 1) (ys.drop (i + 1)) := by
  have hlt : i < ys.length := (List.getElem?_eq_some_iff.1 hx).1
  rw [List.drop_eq_getElem_cons hlt, (List.getElem?_eq_some_iff.1 hx).2]
  rfl

section
variable {X : XTab}

theorem tree_Next (hX : OnlyKnown X) {h : Heap} {v : AVal} {ys : List Int} (o : Sl intR h v ys) (hl : ys.length < 2 ^ 62) (a b : Int) :
    Tells (fun q => acallX Try.prog X q F_tree_Next [v, I a, I b] h) fun r h' => r = I (nextF ys a b) ∧ Ext [] h h' := by
  refine R_tree_Next _ _ _ (hX _ _ rfl) ?_
  refine Tells.prot fun Q' hQ => ?_
  unfold S_tree_Next
  simp
  refine Tells.bind (tree_is hX o hl a) ?_
  rintro _ h ⟨rfl, rfl⟩
  cases ha : isT ys a with
  | false =>
    simp
    exact Tells.ok (hQ _ _ ⟨by simp [nextF, ha], .refl⟩)
  | true =>
    simp
    refine Tells.bind (tree_is hX o hl b) ?_
    rintro _ h ⟨rfl, rfl⟩
    cases hb : isT ys b with
    | false =>
      simp
      exact Tells.ok (hQ _ _ ⟨by simp [nextF, hb], .refl⟩)
    | true =>
      obtain ⟨k1, k2, k3, k4⟩ := isT_ok ha
      obtain ⟨_, _, k5, k6⟩ := isT_ok hb
      by_cases hab : a = b
      · simp [hab]
        exact Tells.ok (hQ _ _ ⟨by simp [nextF, hab], .refl⟩)
      · simp [beq_eq_false_iff_ne.2 hab, J_tree_Next_0]
        refine Tells.bind (tree_path hX o k1 k2 k3 k4 k5 k6) ?_
        rintro p h1 ⟨sp, x1⟩
        obtain ⟨u, t, hp⟩ := path_ne k1 k2 k3 k4 k5 k6 hab
        obtain ⟨bb, pp, B, q1, q2, q3⟩ := sp.atI (i := 1) (x := u) (by rw [hp]; rfl)
        simp at q1
        simp [q1, q2, q3]
        exact Tells.ok (hQ _ _ ⟨by simp [nextF, ha, hb, hab, hp], x1⟩)

theorem tree_Kids (hX : OnlyKnown X) {h : Heap} {v : AVal} {ys : List Int} (o : Sl intR h v ys) (hl : ys.length < 2 ^ 32) (b : Int) :
    Tells (fun q => acallX Try.prog X q F_tree_Kids [v, I b] h) fun r h' => Gl intR h h' r (kidsF ys b) ∧ Ext [] h h' := by
  refine R_tree_Kids _ _ (hX _ _ rfl) ?_
  refine Tells.prot fun Q' hQ => ?_
  unfold S_tree_Kids
  simp
  refine Tells.bind (tree_is hX o (by omega) b) ?_
  rintro _ h ⟨rfl, rfl⟩
  cases hb : isT ys b with
  | false =>
    simp
    exact Tells.ok (hQ _ _ ⟨by simp [kidsF, hb]; exact Gl.nil, .refl⟩)
  | true =>
    simp [J_tree_Kids_0, o.len]
    refine Tells.bind (Tells.loop (fun n t g => ∃ (i : Nat) (pre : List Int), t 1 = I b ∧ t 13 = v ∧ t 14 = I ys.length ∧ t 15 = I i ∧ i + n = ys.length ∧ pre.length ≤ i ∧ kidsN b 0 ys = pre ++ kidsN b i (ys.drop i) ∧ Gl intR h g (t 5) pre ∧ Ext [] h g)
      (Q := fun p g => p.1 = .exit 0 ∧ Gl intR h g (p.2 5) (kidsN b 0 ys) ∧ Ext [] h g) ?_ ys.length _ _ ?_) ?_
    · rintro n t g ⟨i, pre, t1, t13, t14, t15, hi, pl, hk, go, x⟩
      refine Tells.prot fun Q2 hQ2 => ?_
      unfold L_tree_Kids_2
      simp [t14, t15]
      refine Tells.cb (fun hc => ?_) (fun hc => ?_)
      · simp at hc
        obtain ⟨y, hy⟩ : ∃ y, ys[i]? = some y := ⟨_, List.getElem?_eq_getElem hc⟩
        obtain ⟨bb, pp, B, q1, q2, q3⟩ := (o.ext x).atI hy
        have w : IntKind.i64.wrap ((i : Int) + 1) = i + 1 := wrap_id (by omega) (by omega)
        rw [kidsN_drop hy] at hk
        simp [J_tree_Kids_3, t13, t15, q1, q2, q3, t1]
        by_cases hyb : y = b
        · rw [if_pos hyb] at hk
          simp [hyb, w]
          refine Tells.app1 go (by rfl) (by rfl) (show intR.rep g [I (i + 1)] (i + 1) from rfl) (by rfl) (by rfl) (by omega) (by decide) x.next fun s3 h3 g3 x3 y3 z3 => ?_
          simp [J_tree_Kids_4, t15, w]
          exact Tells.ok (hQ2 _ _ (.inl ⟨rfl, n - 1, by omega, i + 1, pre ++ [(i : Int) + 1], by simp [t1], by simp [t13], by simp [t14], by simp, by omega, by simp; omega, by rw [hk]; simp, by simpa using g3, y3 [] x⟩))
        · rw [if_neg hyb] at hk
          simp [beq_eq_false_iff_ne.2 hyb, J_tree_Kids_4, t15, w]
          exact Tells.ok (hQ2 _ _ (.inl ⟨rfl, n - 1, by omega, i + 1, pre, by simp [t1], by simp [t13], by simp [t14], by simp, by omega, by omega, hk, by simpa using go, x⟩))
      · simp at hc
        rw [List.drop_eq_nil_of_le (by omega)] at hk
        exact Tells.ok (hQ2 _ _ (.inr ⟨by simp, rfl, by rw [hk]; simpa [kidsN] using go, x⟩))
    · exact ⟨0, [], by simp, by simp, by simp, by simp, by omega, by simp, by simp, by simpa using Gl.nil, .refl⟩
    · rintro ⟨ex, t⟩ g ⟨rfl, go, x⟩
      simp [J_tree_Kids_1]
      exact Tells.ok (hQ _ _ ⟨by simpa [kidsF, hb] using go, x⟩)

theorem tree_Side (hX : OnlyKnown X) {h : Heap} {v : AVal} {ys : List Int} (o : Sl intR h v ys) (hl : ys.length < 2 ^ 32) (b c : Int) :
    Tells (fun q => acallX Try.prog X q F_tree_Side [v, I b, I c] h) fun r h' => Gl intR h h' r (sideF ys b c) ∧ Ext [] h h' := by
  refine R_tree_Side _ _ _ (hX _ _ rfl) ?_
  refine Tells.prot fun Q' hQ => ?_
  unfold S_tree_Side
  simp
  generalize hP : (fun x => decide (nextF ys b x = c)) = P0
  refine Tells.bind (Tells.loop (fun n t g => ∃ (i : Nat) (pre : List Int), t 0 = v ∧ t 1 = I b ∧ t 2 = I c ∧ t 8 = I i ∧ i + n = ys.length + 1 ∧ pre.length ≤ i ∧ (0 ≤ c → fromN P0 (ys.length + 1) 0 = pre ++ fromN P0 n i) ∧ (c < 0 → pre = []) ∧ Gl intR h g (t 7) pre ∧ Ext [] h g)
      (Q := fun p g => p.1 = .exit 0 ∧ Gl intR h g (p.2 7) (sideF ys b c) ∧ Ext [] h g) ?_ (ys.length + 1) _ _ ?_) ?_
  · rintro n t g ⟨i, pre, t0, t1, t2, t8, hi, pl, hk, hneg, go, x⟩
    refine Tells.prot fun Q2 hQ2 => ?_
    have og := o.ext x
    unfold L_tree_Side_1
    by_cases h1 : i ≤ ys.length
    · have h1' : (i : Int) ≤ ys.length := by omega
      by_cases h2 : 0 ≤ c
      · have hk := hk h2
        obtain ⟨k, rfl⟩ : ∃ k, n = k + 1 := ⟨n - 1, by omega⟩
        have w : IntKind.i64.wrap ((i : Int) + 1) = i + 1 := wrap_id (by omega) (by omega)
        rw [show fromN P0 (k + 1) (i : Int) = if P0 i = true then (i : Int) :: fromN P0 k (i + 1) else fromN P0 k (i + 1) from rfl] at hk
        simp [t8, t0, og.len, h1', t2, h2, J_tree_Side_2, t1]
        refine Tells.bind (tree_Next hX og (by omega) b i) ?_
        rintro _ h2 ⟨rfl, x2⟩
        have hPi : P0 i = decide (nextF ys b i = c) := by rw [← hP]
        by_cases he : nextF ys b i = c
        · rw [hPi, if_pos (by simpa using he)] at hk
          simp [he]
          refine Tells.app1 (go.e x2) (by rfl) (by rfl) (show intR.rep h2 [I i] i from rfl) (by rfl) (by rfl) (by omega) (by decide) (x.trans x2).next fun s3 h3 g3 x3 y3 z3 => ?_
          simp [J_tree_Side_3, t8, w]
          exact Tells.ok (hQ2 _ _ (.inl ⟨rfl, k, by omega, i + 1, pre ++ [(i : Int)], by simp [t0], by simp [t1], by simp [t2], by simp, by omega, by simp; omega, fun _ => by rw [hk]; simp, fun q => by omega, by simpa using g3, y3 [] (x.trans x2)⟩))
        · rw [hPi, if_neg (by simpa using he)] at hk
          simp [beq_eq_false_iff_ne.2 he, J_tree_Side_3, t8, w]
          exact Tells.ok (hQ2 _ _ (.inl ⟨rfl, k, by omega, i + 1, pre, by simp [t0], by simp [t1], by simp [t2], by simp, by omega, by omega, fun _ => by rw [hk]; simp, fun q => by omega, by simpa using go.e x2, x.trans x2⟩))
      · simp [t8, t0, og.len, h1', t2, h2]
        have := hneg (by omega)
        subst this
        exact Tells.ok (hQ2 _ _ (.inr ⟨by simp, rfl, by simpa [sideF, h2] using go, x⟩))
    · have h1' : ¬ (i : Int) ≤ ys.length := by omega
      have : n = 0 := by omega
      subst this
      simp [t8, t0, og.len, h1']
      refine Tells.ok (hQ2 _ _ (.inr ⟨by simp, rfl, ?_, x⟩))
      by_cases h2 : 0 ≤ c
      · have hk := hk h2
        have e : sideF ys b c = pre := by
          unfold sideF
          rw [if_pos h2, hP, hk]
          simp [fromN]
        rw [e]
        simpa using go
      · have := hneg (by omega)
        subst this
        simpa [sideF, h2] using go
  · exact ⟨0, [], by simp, by simp, by simp, by simp, by omega, by simp, fun _ => by simp, fun _ => rfl, by simpa using Gl.nil, .refl⟩
  · rintro ⟨ex, t⟩ g ⟨rfl, go, x⟩
    simp [J_tree_Side_0]
    exact Tells.ok (hQ _ _ ⟨go, x⟩)
end
end Go.Proofs.Ytebkohdmoaginaa
