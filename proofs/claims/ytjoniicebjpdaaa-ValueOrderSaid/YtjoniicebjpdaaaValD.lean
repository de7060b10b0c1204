/-
  When values are the same, and right.
-/
import Derived.Test.YtjoniicebjpdaaaHandW
import Derived.Test.YtjoniicebjpdaaaBitsF
import Derived.Test.YtjoniicebjpdaaaEqW
set_option linter.unusedVariables false
set_option linter.unusedSimpArgs false
namespace Go.Proofs.Ytjoniicebjpdaaa
open Go.Ab

section
variable {X : XTab}

def sameV (v w : Vl) : Bool := v.k == w.k && v.n == w.n && v.s.toList == w.s.toList && v.b == w.b && bitsF v.x == bitsF w.x

theorem sameV_self (v : Vl) : sameV v v = true := by simp [sameV]

def vl0 : Vl := ⟨0, 0, 0, bs [], false⟩

def x0B (v : Vl) : Bool := ford v.x 0 == some .eq

def s0B (v : Vl) : Bool := v.s.toList == (bs []).toList

def rightV (v : Vl) : Bool := if v.k = 1 then x0B v && (s0B v && !v.b) else if v.k = 2 then v.n == 0 && (s0B v && !v.b) else if v.k = 3 then v.n == 0 && (x0B v && (!v.b && decide (v.s.size ≤ 12))) else if v.k = 4 then v.n == 0 && (x0B v && s0B v) else false

theorem s0_size {v : Vl} (h : s0B v = true) : v.s.size = 0 := by
  have : v.s.toList = (bs []).toList := by simpa [s0B] using h
  rw [ByteArray.toList_eq, ByteArray.toList_eq] at this
  have := Go.WideShapes.bytes_inj this
  rw [this]; rfl

theorem eq24 : ∀ v w : Vl, aPure Try.prog (Op.equal 24 (vlV v) (vlV w)) = some (eqVl v w) := fun v w =>
  aPure_eq5 (t0 := 3) (t1 := 2) (t2 := 22) (t3 := 9) (t4 := 4) Try.underlying24 ⟨by decide, rfl, rfl⟩ ⟨by decide, rfl, rfl⟩ ⟨by decide, rfl, rfl⟩ ⟨by decide, rfl, rfl⟩ ⟨by decide, rfl, rfl⟩ Try.underlying3 Try.underlying2 Try.underlying22 Try.underlying9 Try.underlying4 (by kernel_rfl) 9998 v w

theorem guard24 : Try.prog.eqGuardType Try.prog.depth 24 = false := by kernel_rfl

theorem zero24 (x y : Operand) (n : Int) (f : Nat) (s : ByteArray) (b : Bool) : aBin Try.prog .eql 24 x y (.agg [I 0, I n, .flt .f64 f, .str s, .bool b]) (.agg [I 0, I 0, .flt .f64 0, .str (bs []), .bool false]) = some (.bool (n == 0 && (ford f 0 == some .eq && (s.toList == (bs []).toList && !b)))) := by
  have := aBin_eqlV eq24 guard24 x y ⟨0, n, f, s, b⟩ vl0
  rw [eqVl_eq] at this
  simpa [vlC, vl0] using this

end
end Go.Proofs.Ytjoniicebjpdaaa
