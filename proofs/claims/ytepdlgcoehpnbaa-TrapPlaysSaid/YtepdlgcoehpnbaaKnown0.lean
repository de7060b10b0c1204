/-
  The package's closed example; pointers beside nil.
-/
import Derived.Test.YtepdlgcoehpnbaaB2
import Derived.Test.YtepdlgcoehpnbaaSIds
set_option linter.unusedVariables false
set_option linter.unusedSimpArgs false
namespace Go.Proofs.Ytepdlgcoehpnbaa
open Go.Ab

theorem known_X {X : XTab} {F : FuncId} (hk : X F [] = some (.bool true)) (h : Heap) : Tells (fun m => acallX Try.prog X m F [] h) fun a h' => a = .bool true ∧ h' = h :=
  ⟨.bool true, h, ⟨rfl, rfl⟩, 1, fun m hm => by
    obtain ⟨k, rfl⟩ : ∃ k, m = k + 1 := ⟨m - 1, by omega⟩
    simp only [acallX, hk]⟩
theorem ptr_nil {t e : TypeId} (hu : Try.prog.underlying t = some (.pointer e)) (o1 o2 : Operand) (b p : Nat) : aBin Try.prog .eql t o1 o2 (.ptr b p) .nilp = some (.bool false) := by
  simp only [aBin, AVal.toV, aNilCmp, hu, nilRes]
theorem ptr_nil' {t e : TypeId} (hu : Try.prog.underlying t = some (.pointer e)) (o1 o2 : Operand) (b p : Nat) : aBin Try.prog .neq t o1 o2 (.ptr b p) .nilp = some (.bool true) := by
  simp only [aBin, AVal.toV, aNilCmp, hu, nilRes]
end Go.Proofs.Ytepdlgcoehpnbaa
