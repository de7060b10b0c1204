/-
  BagKnown: the law returns true, whatever its arguments are. No condition: every argument that the statement lets in. (The abstract machine of YthepnokmoaipfaaABDef is reckoned by hand in the forms of YthepnokmoaipfaaABS; what it tells, the model does: YthepnokmoaipfaaABX.)
-/
import Derived.Test.YthepnokmoaipfaaRows
import Derived.Test.YthepnokmoaipfaaABProg
import Derived.Test.YthepnokmoaipfaaLaw19a
import Derived.Test.YthepnokmoaipfaaABRow
import Derived.WalkKit
import Derived.ProofKit
import Derived.OpenShut
set_option linter.unusedVariables false
namespace Go.Proofs.Ythepnokmoaipfaa.bagKnown
open Go.ChangeShapes Go.WideShapes Go.ChangeAt Go.RowKit Go.Ab

theorem xok : XOk Try.prog noX := ok_noX
theorem only : OnlyKnown noX := only_noX
theorem lifted (os : Os) (started : os.Started) (H : Type) (enc : TypeId × Value → H) :
    ReturnsInHanded {} Try.checked os 3 .any (Rows.bagKnownSpec.pre6 enc Try.prog Try.f3 Rows.bagKnownRow.domain false) (Rows.bagKnownSpec.post enc Try.prog Try.f3 false true false false) :=
  lift_open (P := Try.prog) rfl own started (by kernel_rfl) Try.func3
    (ChangeSpec.witness6 (enc := enc) (C := Try.checked) false ⟨#[], #[], []⟩ 8 (by kernel_rfl) (by kernel_rfl) (by kernel_rfl) (by kernel_rfl))
    follows slots xok rfl laid (ts := []) (by kernel_rfl) (by kernel_rfl) rfl Try.underlying4 (fun ds hd => match ds, hd with
      | [], _ => rfl) (fun W base vs ds p _ hA => by
        cases vs with
        | nil => exact (bagKnown only (Heap.ofW W)).mono fun a h q => q.1
        | cons v r => cases ds with
          | nil => exact hA.elim
          | cons d e => exact hA.elim)

theorem over : Rows.bagKnownRow.holds Try.pinned (OpenSpec.ofChange Rows.bagKnownSpec) :=
  OpenClaim.holds_of_wide 3 Try.f3 rfl rfl rfl rfl rfl rfl rfl ⟨rfl, rfl, rfl, rfl, rfl⟩ rfl rfl rfl rfl rfl (by kernel_rfl) Try.func3 (by kernel_rfl)
    (of_decide_eq_true (by kernel_rfl)) (by unfold Func.isWrapper; first | (rw [if_pos (by decide +kernel)]; kernel_rfl) | (rw [if_neg (by decide +kernel)]; exact ⟨rfl, rfl⟩))
    (fun os started H enc _ => lifted os started H enc)

theorem proved : Rows.BagKnownSaid := over
#print axioms proved
end Go.Proofs.Ythepnokmoaipfaa.bagKnown
