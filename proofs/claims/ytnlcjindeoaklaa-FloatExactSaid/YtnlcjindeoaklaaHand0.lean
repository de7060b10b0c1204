/-
  What precentorhand's Next tells.
-/
import Derived.Test.YtnlcjindeoaklaaHandP
set_option linter.unusedVariables false
set_option linter.unusedSimpArgs false
namespace Go.Proofs.Ytnlcjindeoaklaa
open Go.Ab

/-- A feed of raw numbers, asked k times at most. -/
def Feed (h : Heap) (bf k : Nat) : Prop := ∃ L at_ xs, Ob h bf [L, I at_] ∧ 0 ≤ at_ ∧ at_ ≤ (k : Int) ∧ Sl intR h L xs ∧ xs.length < 2 ^ 63 ∧ ∀ c, c ∈ L.blks → c < h.n0
theorem Feed.ext {S : List Nat} {h h' : Heap} {bf k : Nat} (f : Feed h bf k) (e : Ext S h h') (hb : bf ∉ S) : Feed h' bf k := by
  obtain ⟨L, a, xs, h1, h2, h3, h4, h5, h6⟩ := f
  exact ⟨L, a, xs, h1.ext e hb, h2, h3, h4.ext e, h5, by rw [e.n0]; exact h6⟩
theorem Feed.e {h h' : Heap} {bf k : Nat} (f : Feed h bf k) (e : Ext [] h h') : Feed h' bf k := f.ext e (by simp)
theorem Feed.mono {h : Heap} {bf k k' : Nat} (f : Feed h bf k) (hk : k ≤ k') : Feed h bf k' := by
  obtain ⟨L, a, xs, h1, h2, h3, h4⟩ := f
  exact ⟨L, a, xs, h1, h2, by omega, h4⟩
theorem Feed.lt {h : Heap} {bf k : Nat} (f : Feed h bf k) : bf < h.next := by obtain ⟨L, a, xs, h1, _⟩ := f; exact h1.lt
theorem Feed.m {h : Heap} {bf k : Nat} (f : Feed h bf k) : h.isM bf = true := by obtain ⟨L, a, xs, h1, _⟩ := f; exact h1.2.1

section
variable {X : XTab}

theorem Next (hX : OnlyKnown X) (n : Int) (hn : In64 n) {h : Heap} {bf k : Nat} (f : Feed h bf k) (hk : k < 2 ^ 62) :
    Tells (fun q => acallX Try.prog X q F_precentorhand_Feed_Next [.ptr bf 0, I n] h) fun v h' => ∃ r, v = I r ∧ 0 ≤ r ∧ (1 ≤ n → r < n) ∧ (n < 1 → r = 0) ∧ Ext [bf] h h' ∧ Feed h' bf (k + 1) := by
  refine R_precentorhand_Feed_Next _ _ (hX _ _ rfl) ?_
  unfold S_precentorhand_Feed_Next
  obtain ⟨L, a, xs, h1, h2, h3, h4, h5, h6⟩ := f
  have hlen := h4.len
  by_cases hz : xs.length = 0
  · simp [h1.1, hlen, hz]
    exact Tells.ok ⟨0, rfl, by omega, fun _ => by omega, fun _ => rfl, .refl, ⟨L, a, xs, h1, h2, by omega, h4, h5, h6⟩⟩
  · have hl : (xs.length : Int) ≠ 0 := by omega
    have hl2 : ((xs.length : Int) == 0) = false := beq_eq_false_iff_ne.2 hl
    have m0 : 0 ≤ a.tmod xs.length := Int.tmod_nonneg _ h2
    have m1 : a.tmod xs.length < xs.length := Int.tmod_lt_of_pos _ (by omega)
    obtain ⟨x, hx⟩ : ∃ x, xs[(a.tmod xs.length).toNat]? = some x := ⟨_, List.getElem?_eq_getElem (by omega)⟩
    obtain ⟨b, p, B, c, q1, q2, q3⟩ := h4.at (n := 1) rfl m0 hx
    have d0 : 0 ≤ a.tdiv xs.length := Int.tdiv_nonneg h2 (by omega)
    have d1 : a.tdiv xs.length ≤ a := Int.tdiv_le_self _ h2
    have w1 : IntKind.i64.wrap (a.tdiv xs.length) = a.tdiv xs.length := wrap_id (by omega) (by omega)
    have w2 : IntKind.i64.wrap (1 + a.tdiv xs.length) = 1 + a.tdiv xs.length := wrap_id (by omega) (by omega)
    have w3 : IntKind.i64.wrap (a + 1) = a + 1 := wrap_id (by omega) (by omega)
    have q4 := q2.ld0 (x := I x) (by rw [q3]; rfl)
    obtain ⟨h', s1, s2, s3⟩ := h1.st (off := 1) (n := 1) (v := I (a + 1)) rfl rfl (by simp)
    simp only [ld1_ptr, cell_eq] at q4
    simp [h1.1, hlen, hl2, J_precentorhand_Feed_Next_0, aBin_rem _ _ _ _ _ _ _ hl, aBin_quo _ _ _ _ _ _ _ hl, q1, q4, w1, w2, aBin_quo _ _ _ _ _ _ _ (show 1 + a.tdiv xs.length ≠ 0 by omega), w3, s1]
    refine Tells.bind (Pick hX _ n hn _) ?_
    rintro v h' ⟨rfl, rfl⟩
    exact Tells.ok ⟨_, rfl, pick_lo _ _, pick_hi _ _, fun q => by simp [pick, q], s3, ⟨L, a + 1, xs, by simpa [splice] using s2, by omega, by omega, h4.ext s3, h5, by rw [s3.n0]; exact h6⟩⟩

end
end Go.Proofs.Ytnlcjindeoaklaa
