/-
  Closed facts of the seat's program.
-/
import Derived.Test.YtnlcjindeoaklaaChecked
import Derived.Test.YtnlcjindeoaklaaABEnd
namespace Go.Proofs.Ytnlcjindeoaklaa
theorem own : ownKnob Try.prog.godebug = none := by kernel_rfl
theorem follows : Try.prog.follows .mixedOrders = true := by kernel_rfl
theorem slots : Go.Ab.progSlots Try.prog = true := by kernel_rfl
theorem laid : laidOutB Try.prog = true := by kernel_rfl
end Go.Proofs.Ytnlcjindeoaklaa
