/-
  When floats, values and attributes are the same; reading an attribute.
-/
import Derived.Test.YtfbipojncmkckaaHandV
import Derived.Test.YtfbipojncmkckaaOps
set_option linter.unusedVariables false
set_option linter.unusedSimpArgs false
namespace Go.Proofs.Ytfbipojncmkckaa
open Go.Ab

/-- A float's bits: one nought, one NaN. -/
def bitsF (x : Nat) : Int := if (ford x x != some .eq) = true then 9221120237041090560 else if (ford x 0 == some .eq) = true then 0 else x
def sameV (v w : Vl) : Bool := v.k == w.k && v.n == w.n && v.s.toList == w.s.toList && v.b == w.b && bitsF v.x == bitsF w.x
theorem sameV_self (v : Vl) : sameV v v = true := by simp [sameV]
def getA (l : List Att) (nm : ByteArray) : Option Att := l.find? fun a => a.1.toList == nm.toList
def vl0 : Vl := ⟨0, 0, 0, bs [], false⟩
def sameA : List Att → List Att → Bool
  | [], [] => true
  | a :: l, b :: m => (a.1.toList == b.1.toList && sameV a.2 b.2) && sameA l m
  | _, _ => false
theorem sameA_self : ∀ l : List Att, sameA l l = true
  | [] => rfl
  | a :: l => by simp [sameA, sameV_self, sameA_self l]
theorem sameA_len : ∀ {l m : List Att}, l.length ≠ m.length → sameA l m = false
  | [], [], h => absurd rfl h
  | a :: l, b :: m, h => by simp only [sameA, sameA_len (l := l) (m := m) (by simpa using h), Bool.and_false]
  | [], _ :: _, _ => rfl
  | _ :: _, [], _ => rfl
theorem sameA_drop {l m : List Att} {i : Nat} {a b : Att} (h1 : l[i]? = some a) (h2 : m[i]? = some b) : sameA (l.drop i) (m.drop i) = ((a.1.toList == b.1.toList && sameV a.2 b.2) && sameA (l.drop (i + 1)) (m.drop (i + 1))) := by
  have a1 := List.getElem?_eq_some_iff.1 h1
  have a2 := List.getElem?_eq_some_iff.1 h2
  rw [List.drop_eq_getElem_cons a1.1, List.drop_eq_getElem_cons a2.1, a1.2, a2.2]
  rfl

theorem att_at {h : Heap} {v : AVal} {ats : List Att} (o : Sl attrR h v ats) {i : Nat} {a : Att} (hx : ats[i]? = some a) :
    ∃ b p B, ixsR 6 v (.int .i64 (i : Int)) = some (.ptr b p) ∧ h.get b = some B ∧ p + 6 ≤ B.length ∧ (B.drop p).take 6 = attC a ∧ B[p]? = some (.str a.1) ∧ p + 1 + 5 ≤ B.length ∧ (B.drop (p + 1)).take 5 = vlC a.2 := by
  obtain ⟨b, p, B, c, q1, e, r⟩ := o.at (n := 6) rfl (i := (i : Int)) (by omega) (by simpa using hx)
  have r : c = attC a := r
  subst r
  have l := e.le
  have s := e.sub 1 5 (by simp [attC, vlC])
  have sl := s.le
  have se := s.eq
  have e0 := e.eq
  simp only [attC, vlC, List.length_cons, List.length_nil] at l sl e0
  exact ⟨b, p, B, q1, e.get, by omega, e0, e.cell0 (by simp [attC]), by omega, se⟩

end Go.Proofs.Ytfbipojncmkckaa
