/-
  What config tells of a config.
-/
import Derived.Test.YtagfibiakjiooaaTree0a
import Derived.Test.YtagfibiakjiooaaSconfig
set_option linter.unusedVariables false
set_option linter.unusedSimpArgs false
namespace Go.Proofs.Ytagfibiakjiooaa
open Go.Ab

def good (w r q f s : Int) : Prop := 1 ≤ w ∧ w ≤ 8 ∧ 1 ≤ r ∧ r ≤ 8 ∧ 1 ≤ q ∧ q ≤ 8 ∧ 1 ≤ f ∧ f ≤ 4 ∧ 0 ≤ s ∧ s ≤ 4611686018427387904
instance (w r q f s : Int) : Decidable (good w r q f s) := by unfold good; infer_instance
/-- The error that a config tells. -/
def errC (xs : List Int) (w r q f s : Int) : Int := if rightT xs = true then (if good w r q f s then 0 else 1) else 3
theorem errC_3 {xs : List Int} (h : rightT xs = false) (w r q f s : Int) : errC xs w r q f s = 3 := by simp [errC, h]
theorem errC_1 {xs : List Int} (h : rightT xs = true) {w r q f s : Int} (g : ¬ good w r q f s) : errC xs w r q f s = 1 := by simp [errC, h, g]
theorem errC_0 {xs : List Int} (h : rightT xs = true) {w r q f s : Int} (g : good w r q f s) : errC xs w r q f s = 0 := by simp [errC, h, g]

/-- How many brokers; how many frames have room. -/
def nB (xs : List Int) (w r q f s : Int) : Int := if errC xs w r q f s = 0 then xs.length + 1 else 0
def roomC (xs : List Int) (w r q f s : Int) : Int := if nB xs w r q f s = 0 then 0 else nB xs w r q f s * f * (nB xs w r q f s + 1) + 6 + nB xs w r q f s + 2
theorem errC_zero {xs : List Int} {w r q f s : Int} : errC xs w r q f s = 0 ↔ rightT xs = true ∧ good w r q f s := by
  unfold errC
  by_cases h : rightT xs = true
  · by_cases g : good w r q f s <;> simp [h, g]
  · simp [h]
theorem rightT_len {xs : List Int} (h : rightT xs = true) : xs.length ≤ 7 := by simp [rightT] at h; exact h.2
theorem nB_small (xs : List Int) (w r q f s : Int) : 0 ≤ nB xs w r q f s ∧ nB xs w r q f s ≤ 8 := by
  unfold nB
  split
  · rename_i h; have := rightT_len (errC_zero.1 h).1; omega
  · omega
theorem nB_f (xs : List Int) (w r q f s : Int) : nB xs w r q f s = 0 ∨ (1 ≤ f ∧ f ≤ 4) := by
  unfold nB
  split
  · rename_i h; have := (errC_zero.1 h).2; unfold good at this; exact .inr ⟨this.2.2.2.2.2.2.1, this.2.2.2.2.2.2.2.1⟩
  · exact .inl rfl
theorem fly_small (xs : List Int) (w r q f s : Int) : 0 ≤ nB xs w r q f s * f ∧ nB xs w r q f s * f ≤ 32 := by
  have h1 := nB_small xs w r q f s
  generalize hn : nB xs w r q f s = n at h1
  rcases nB_f xs w r q f s with h | h
  · rw [hn] at h; subst h; simp
  · have : f = 1 ∨ f = 2 ∨ f = 3 ∨ f = 4 := by omega
    rcases this with e | e | e | e <;> subst e <;> omega
theorem fly_room (xs : List Int) (w r q f s : Int) : 0 ≤ nB xs w r q f s * f * (nB xs w r q f s + 1) ∧ nB xs w r q f s * f * (nB xs w r q f s + 1) ≤ 1000 := by
  have h1 := nB_small xs w r q f s
  have h2 := fly_small xs w r q f s
  generalize nB xs w r q f s * f = m at h2
  generalize nB xs w r q f s = n at h1
  constructor
  · exact Int.mul_nonneg h2.1 (by omega)
  · calc m * (n + 1) ≤ 32 * (n + 1) := Int.mul_le_mul_of_nonneg_right h2.2 (by omega)
      _ ≤ 1000 := by omega

section
variable {X : XTab}

theorem Check (hX : OnlyKnown X) {h : Heap} {v : AVal} {xs : List Int} (o : Sl intR h v xs) (hl : xs.length < 2 ^ 62) (w r q f s : Int) :
    Tells (fun n => acallX Try.prog X n F_config_Check [.agg [v, I w, I r, I q, I f, I s]] h) fun e h' => e = I (errC xs w r q f s) ∧ Ext [] h h' := by
  refine R_config_Check _ (hX _ _ rfl) ?_
  refine Tells.prot fun Q' hQ => ?_
  unfold S_config_Check
  simp
  refine Tells.box rfl rfl fun h1 b1 o1 e1 l1 => ?_
  simp [o1.1]
  refine Tells.bind (Right hX (o.ext e1) hl) ?_
  rintro _ h1 ⟨rfl, rfl⟩
  by_cases hr : rightT xs = false
  · simp [o1.1, hr]
    exact Tells.ok (hQ _ _ ⟨by rw [errC_3 hr], e1⟩)
  have hr : rightT xs = true := by simpa using hr
  simp [o1.1, hr]
  by_cases c1 : w < 1
  · simp [o1.1, c1]
    exact Tells.ok (hQ _ _ ⟨by rw [errC_1 hr (by unfold good; omega)], e1⟩)
  simp [o1.1, c1]
  by_cases c2 : 8 < w
  · simp [o1.1, c2]
    exact Tells.ok (hQ _ _ ⟨by rw [errC_1 hr (by unfold good; omega)], e1⟩)
  simp [o1.1, c2]
  by_cases c3 : r < 1
  · simp [o1.1, c3]
    exact Tells.ok (hQ _ _ ⟨by rw [errC_1 hr (by unfold good; omega)], e1⟩)
  simp [o1.1, c3]
  by_cases c4 : 8 < r
  · simp [o1.1, c4]
    exact Tells.ok (hQ _ _ ⟨by rw [errC_1 hr (by unfold good; omega)], e1⟩)
  simp [o1.1, c4]
  by_cases c5 : q < 1
  · simp [o1.1, c5]
    exact Tells.ok (hQ _ _ ⟨by rw [errC_1 hr (by unfold good; omega)], e1⟩)
  simp [o1.1, c5]
  by_cases c6 : 8 < q
  · simp [o1.1, c6]
    exact Tells.ok (hQ _ _ ⟨by rw [errC_1 hr (by unfold good; omega)], e1⟩)
  simp [o1.1, c6]
  by_cases c7 : f < 1
  · simp [o1.1, c7]
    exact Tells.ok (hQ _ _ ⟨by rw [errC_1 hr (by unfold good; omega)], e1⟩)
  simp [o1.1, c7]
  by_cases c8 : 4 < f
  · simp [o1.1, c8]
    exact Tells.ok (hQ _ _ ⟨by rw [errC_1 hr (by unfold good; omega)], e1⟩)
  simp [o1.1, c8]
  by_cases c9 : s < 0
  · simp [o1.1, c9]
    exact Tells.ok (hQ _ _ ⟨by rw [errC_1 hr (by unfold good; omega)], e1⟩)
  simp [o1.1, c9]
  by_cases c10 : 4611686018427387904 < s
  · simp [o1.1, c10]
    exact Tells.ok (hQ _ _ ⟨by rw [errC_1 hr (by unfold good; omega)], e1⟩)
  simp [o1.1, c10]
  simp [J_config_Check_0]
  exact Tells.ok (hQ _ _ ⟨by rw [errC_0 hr (by unfold good; omega)], e1⟩)

theorem Brokers (hX : OnlyKnown X) {h : Heap} {v : AVal} {xs : List Int} (o : Sl intR h v xs) (hl : xs.length < 2 ^ 62) (w r q f s : Int) :
    Tells (fun n => acallX Try.prog X n F_config_Brokers [.agg [v, I w, I r, I q, I f, I s]] h) fun e h' => e = I (nB xs w r q f s) ∧ Ext [] h h' := by
  refine R_config_Brokers _ (hX _ _ rfl) ?_
  refine Tells.prot fun Q' hQ => ?_
  unfold S_config_Brokers
  simp
  refine Tells.box rfl rfl fun h1 b1 o1 e1 l1 => ?_
  simp [o1.1]
  refine Tells.bind (Check hX (o.ext e1) hl w r q f s) ?_
  rintro _ h2 ⟨rfl, e2⟩
  by_cases he : errC xs w r q f s = 0
  · simp [he, J_config_Brokers_0, (o1.e e2).1, o.len]
    refine Tells.ok (hQ _ _ ⟨?_, e1.trans e2⟩)
    rw [wrap_id (by omega) (by omega)]
    simp [nB, he]
  · have hb : (errC xs w r q f s != 0) = true := by simp [he]
    simp [hb]
    exact Tells.ok (hQ _ _ ⟨by simp [nB, he], e1.trans e2⟩)

end
end Go.Proofs.Ytagfibiakjiooaa
