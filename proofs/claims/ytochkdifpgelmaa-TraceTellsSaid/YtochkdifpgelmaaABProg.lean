/-
  Closed facts of the seat's program.
-/
import Derived.Test.YtochkdifpgelmaaChecked
import Derived.Test.YtochkdifpgelmaaABEnd
namespace Go.Proofs.Ytochkdifpgelmaa
theorem own : ownKnob Try.prog.godebug = none := by kernel_rfl
theorem follows : Try.prog.follows .mixedOrders = true := by kernel_rfl
theorem slots : Go.Ab.progSlots Try.prog = true := by kernel_rfl
theorem laid : laidOutB Try.prog = true := by kernel_rfl
end Go.Proofs.Ytochkdifpgelmaa
