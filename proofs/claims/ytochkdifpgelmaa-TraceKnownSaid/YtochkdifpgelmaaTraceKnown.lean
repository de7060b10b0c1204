/-
  TraceKnown: this closed sentence about the program is true. No condition: it takes no argument. (The abstract machine of YtochkdifpgelmaaABDef is run in the kernel; what it tells, the model does: YtochkdifpgelmaaABRun.)
-/
import Derived.Test.YtochkdifpgelmaaRows
import Derived.Test.YtochkdifpgelmaaABProg
import Derived.WalkKit
import Derived.ProofKit
import Derived.OpenShut
namespace Go.Proofs.Ytochkdifpgelmaa.traceKnown
open Go.ChangeShapes Go.WideShapes Go.ChangeAt Go.RowKit Go.Ab

theorem told : okTrue (acall Try.prog 200 3 [] Heap.empty) = true := by kernel_rfl

theorem lifted (os : Os) (started : os.Started) (H : Type) (enc : TypeId × Value → H) :
    ReturnsInHanded {} Try.checked os 3 .any (Rows.traceKnownSpec.pre6 enc Try.prog Try.f3 Rows.traceKnownRow.domain false) (Rows.traceKnownSpec.post enc Try.prog Try.f3 false true false false) := by
  refine returnsInHanded_of_change (C := Try.checked) own started (by kernel_rfl) Try.func3
    (ChangeSpec.witness6 (enc := enc) (C := Try.checked) false ⟨#[], #[], []⟩ 8 (by kernel_rfl) (by kernel_rfl) (by kernel_rfl) (by kernel_rfl)) ?_
  intro W base args ds gs before hval hW hcnd _
  have hW' := hW
  obtain ⟨p, q, hA, hV, rfl, hfz, hnd⟩ := hW'
  rw [Try.params3] at hA
  obtain ⟨rfl, _, _⟩ := trodAll_none hA
  refine (calls_of_closed follows slots told W).mono fun e W' ⟨he, hB⟩ => ?_
  exact ⟨_, he, post_true hW hB rfl laid (by kernel_rfl) rfl Try.underlying4 (fun ds hd => by
    have : ds = [] := List.eq_nil_of_length_eq_zero hd
    subst this; rfl)⟩

theorem over : Rows.traceKnownRow.holds Try.pinned (OpenSpec.ofChange Rows.traceKnownSpec) :=
  OpenClaim.holds_of_wide 3 Try.f3 rfl rfl rfl rfl rfl rfl rfl ⟨rfl, rfl, rfl, rfl, rfl⟩ rfl rfl rfl rfl rfl (by kernel_rfl) Try.func3 (by kernel_rfl)
    (of_decide_eq_true (by kernel_rfl)) (by unfold Func.isWrapper; first | (rw [if_pos (by decide +kernel)]; kernel_rfl) | (rw [if_neg (by decide +kernel)]; exact ⟨rfl, rfl⟩))
    (fun os started H enc _ => lifted os started H enc)

theorem proved : Rows.TraceKnownSaid := over
#print axioms proved
end Go.Proofs.Ytochkdifpgelmaa.traceKnown
