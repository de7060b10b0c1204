/-
  TurnKnown: this closed sentence about the program is true. No condition: it takes no argument. (The abstract machine of YtckkngnllhaojaaABDef is run in the kernel; what it tells, the model does: YtckkngnllhaojaaABRun.)
-/
import Derived.Test.YtckkngnllhaojaaRows
import Derived.Test.YtckkngnllhaojaaABProg
import Derived.WalkKit
import Derived.ProofKit
import Derived.OpenShut
namespace Go.Proofs.Ytckkngnllhaojaa.turnKnown
open Go.ChangeShapes Go.WideShapes Go.ChangeAt Go.RowKit Go.Ab

theorem told : okTrue (acall Try.prog 60 11 [] Heap.empty) = true := by kernel_rfl

theorem lifted (os : Os) (started : os.Started) (H : Type) (enc : TypeId × Value → H) :
    ReturnsInHanded {} Try.checked os 11 .any (Rows.turnKnownSpec.pre6 enc Try.prog Try.f11 Rows.turnKnownRow.domain false) (Rows.turnKnownSpec.post enc Try.prog Try.f11 false true false false) := by
  refine returnsInHanded_of_change (C := Try.checked) own started (by kernel_rfl) Try.func11
    (ChangeSpec.witness6 (enc := enc) (C := Try.checked) false ⟨#[], #[], []⟩ 8 (by kernel_rfl) (by kernel_rfl) (by kernel_rfl) (by kernel_rfl)) ?_
  intro W base args ds gs before hval hW hcnd _
  have hW' := hW
  obtain ⟨p, q, hA, hV, rfl, hfz, hnd⟩ := hW'
  rw [Try.params11] at hA
  obtain ⟨rfl, _, _⟩ := trodAll_none hA
  refine (calls_of_closed follows slots told W).mono fun e W' ⟨he, hB⟩ => ?_
  exact ⟨_, he, post_true hW hB rfl laid (by kernel_rfl) rfl Try.underlying4 (fun ds hd => by
    have : ds = [] := List.eq_nil_of_length_eq_zero hd
    subst this; rfl)⟩

theorem over : Rows.turnKnownRow.holds Try.pinned (OpenSpec.ofChange Rows.turnKnownSpec) :=
  OpenClaim.holds_of_wide 11 Try.f11 rfl rfl rfl rfl rfl rfl rfl ⟨rfl, rfl, rfl, rfl, rfl⟩ rfl rfl rfl rfl rfl (by kernel_rfl) Try.func11 (by kernel_rfl)
    (of_decide_eq_true (by kernel_rfl)) (by unfold Func.isWrapper; first | (rw [if_pos (by decide +kernel)]; kernel_rfl) | (rw [if_neg (by decide +kernel)]; exact ⟨rfl, rfl⟩))
    (fun os started H enc _ => lifted os started H enc)

theorem proved : Rows.TurnKnownSaid := over
#print axioms proved
end Go.Proofs.Ytckkngnllhaojaa.turnKnown
