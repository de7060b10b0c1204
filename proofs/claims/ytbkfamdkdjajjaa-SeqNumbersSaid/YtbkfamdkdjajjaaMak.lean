/-
  Reckoning in the S-forms: rows that are made, and written in place (objects).
-/
import Derived.Test.YtbkfamdkdjajjaaB2
set_option linter.unusedVariables false
set_option linter.unusedSimpArgs false
namespace Go.Ab

section
variable {β : Type} {Q : β → Heap → Prop} {h : Heap}
theorem makE {n by_ k : Nat} {z cs : List AVal} (hz : z.length = n) (hk : k ≤ 2 ^ 30) (hb : by_ ≤ 2 ^ 12) (hc : zeros z k = cs) : makR n by_ z h (I k) (I k) = .val (.sl h.next 0 k k n true) (h.new true cs) := by
  have : (k : Int) * by_ ≤ 2 ^ 46 := by
    have : k * by_ ≤ 2 ^ 30 * 2 ^ 12 := Nat.mul_le_mul hk hb
    have e : ((k * by_ : Nat) : Int) = (k : Int) * by_ := by simp
    omega
  unfold makR
  simp only
  rw [if_pos ⟨by omega, by omega, by omega, this, hz⟩]
  simp only [Int.toNat_natCast]
  rw [hc]
theorem Tells.makV {n by_ k : Nat} {z cs : List AVal} {f : Nat → AVal → Heap → Res β} (hz : z.length = n) (hk : k ≤ 2 ^ 30) (hb : by_ ≤ 2 ^ 12) (hc : zeros z k = cs)
    (q : ∀ h1 b, h.next ≤ b → Ob h1 b cs → Ext [] h h1 → Tells (fun m => f m (.sl b 0 k k n true) h1) Q) : Tells (fun m => arbV (makR n by_ z h (I k) (I k)) (f m)) Q := by
  rw [makE hz hk hb hc]
  exact q _ _ (Nat.le_refl _) (Ob.new h cs) (Ext.new h true cs)
theorem Tells.mak {call : Nat → FuncId → List AVal → Heap → Res AVal} {n by_ k : Nat} {z cs : List AVal} {f : Nat → AVal → Heap → Res β} (hz : z.length = n) (hk : k ≤ 2 ^ 30) (hb : by_ ≤ 2 ^ 12) (hc : zeros z k = cs)
    (q : ∀ h1 b, h.next ≤ b → Ob h1 b cs → Ext [] h h1 → Tells (fun m => f m (.sl b 0 k k n true) h1) Q) : Tells (fun m => arb (makR n by_ z h (I k) (I k)) (call m) (f m)) Q := by
  rw [makE hz hk hb hc]
  exact q _ _ (Nat.le_refl _) (Ob.new h cs) (Ext.new h true cs)

/-- A row of ints that is an object. -/
def fnC (f : Nat → Int) (n : Nat) : List AVal := (List.range n).map fun x => I (f x)
theorem fnC_len (f : Nat → Int) (n : Nat) : (fnC f n).length = n := by simp [fnC]
theorem fnC_at {f : Nat → Int} {n x : Nat} (h : x < n) : (fnC f n)[x]? = some (I (f x)) := by simp [fnC, h]
theorem fnC_set {f g : Nat → Int} {n z : Nat} {v : Int} (hg : ∀ x, x < n → g x = if x = z then v else f x) : (fnC f n).set z (I v) = fnC g n := by
  apply List.ext_getElem?
  intro x
  rw [List.getElem?_set]
  by_cases hx : x < n
  · rw [fnC_at hx, fnC_at hx, hg x hx]
    by_cases e : x = z
    · subst e; simp [fnC_len, hx]
    · rw [if_neg (Ne.symm e), if_neg e]
  · have h1 : (fnC f n)[x]? = none := List.getElem?_eq_none (by rw [fnC_len]; omega)
    have h2 : (fnC g n)[x]? = none := List.getElem?_eq_none (by rw [fnC_len]; omega)
    rw [h1, h2]
    split
    · rename_i e; subst e; simp [fnC_len, hx]
    · rfl
theorem fnC_zeros (n : Nat) : zeros [I 0] n = fnC (fun _ => 0) n := by
  induction n with
  | zero => rfl
  | succ n ih => 
    show [I 0] ++ zeros [I 0] n = _
    rw [ih]
    simp only [fnC, List.range_succ_eq_map, List.map_cons, List.map_map]
    rfl
theorem fnC_congr {f g : Nat → Int} {n : Nat} (h : ∀ x, x < n → f x = g x) : fnC f n = fnC g n := by
  apply List.map_congr_left
  intro x hx
  rw [h x (by simpa using hx)]
theorem ixs_made {b k c z : Nat} {i : Nat} (h : i < k) : ixsR z (.sl b 0 k c z true) (.int .i64 (i : Int)) = some (.ptr b (i * z)) := by
  simp only [ixsR]
  rw [if_pos ⟨by omega, by omega⟩]
  simp
end
end Go.Ab
