/-
  The numbers of the seat's functions by name (printed by a program of ours, gen.lean).
-/
import Derived.Test.YtagfibiakjiooaaABT
import Derived.Test.YtagfibiakjiooaaChecked
set_option linter.unusedVariables false
namespace Go.Proofs.Ytagfibiakjiooaa
open Go.Ab
abbrev F_main_main : FuncId := 0
abbrev F_gosem_cut : FuncId := 1
abbrev F_gosem_cut_init : FuncId := 2
abbrev F_precentorlaw20_DoorSpent : FuncId := 3
abbrev F_precentorhand_Pick : FuncId := 4
abbrev F_precentorlaw20_config : FuncId := 5
abbrev F_door_New : FuncId := 6
abbrev F_precentorlaw20_known : FuncId := 7
abbrev F_door_Door_Offer : FuncId := 8
abbrev F_door_Door_Waiting : FuncId := 9
abbrev F_config_Check : FuncId := 10
abbrev F_config_Brokers : FuncId := 11
abbrev F_precentorlaw20_DoorKnown : FuncId := 12
abbrev F_attr_Right : FuncId := 13
abbrev F_attr_Copy : FuncId := 14
abbrev F_tree_Right : FuncId := 15
abbrev F_door_Door_Next : FuncId := 16
abbrev F_door_Door_Live : FuncId := 17
abbrev F_door_Door_Enter : FuncId := 18
abbrev F_door_Door_Passed : FuncId := 19
abbrev F_door_Door_Done : FuncId := 20
abbrev F_attr_Word : FuncId := 21
abbrev F_value_Right : FuncId := 22
abbrev F_door_Door_rising : FuncId := 23
abbrev F_door_Door_find : FuncId := 24
abbrev F_door_has : FuncId := 25
abbrev F_door_Door_over : FuncId := 26
abbrev F_runtime_boundsError_Error : FuncId := 27
abbrev F_runtime_boundsError_RuntimeError : FuncId := 28
abbrev F_runtime_errorString_Error : FuncId := 29
abbrev F_runtime_errorString_RuntimeError : FuncId := 30
abbrev F_runtime_plainError_Error : FuncId := 31
abbrev F_runtime_plainError_RuntimeError : FuncId := 32
abbrev F_runtime_errorAddressString_Error : FuncId := 33
abbrev F_runtime_errorAddressString_RuntimeError : FuncId := 34
abbrev F_runtime_TypeAssertionError_Error : FuncId := 35
abbrev F_runtime_TypeAssertionError_RuntimeError : FuncId := 36
abbrev F_runtime_PanicNilError_Error : FuncId := 37
abbrev F_runtime_PanicNilError_RuntimeError : FuncId := 38
abbrev F_internal_abi_Type_Align : FuncId := 39
abbrev F_internal_runtime_maps_unhashableTypeError_Error : FuncId := 40
abbrev F_internal_runtime_maps_unhashableTypeError_RuntimeError : FuncId := 41
abbrev F_internal_abi_Kind_String : FuncId := 42
/-- Is it a package's own question whether it answers at all? -/
def isKnown (f : FuncId) : Bool := [7].contains f
def OnlyKnown (X : XTab) : Prop := ∀ f a, isKnown f = false → X f a = none

end Go.Proofs.Ytagfibiakjiooaa
