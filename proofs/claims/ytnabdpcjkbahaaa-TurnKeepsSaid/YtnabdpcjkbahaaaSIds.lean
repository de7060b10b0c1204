/-
  The numbers of the seat's functions by name (printed by a program of ours, gen.lean).
-/
import Derived.Test.YtnabdpcjkbahaaaABT
import Derived.Test.YtnabdpcjkbahaaaChecked
set_option linter.unusedVariables false
namespace Go.Proofs.Ytnabdpcjkbahaaa
open Go.Ab
abbrev F_main_main : FuncId := 0
abbrev F_gosem_cut : FuncId := 1
abbrev F_gosem_cut_init : FuncId := 2
abbrev F_precentorlaw21_TurnKeeps : FuncId := 3
abbrev F_turn_New : FuncId := 4
abbrev F_precentorlaw21_known : FuncId := 5
abbrev F_precentorhand_Feed_Next : FuncId := 6
abbrev F_turn_Turn_Add : FuncId := 7
abbrev F_turn_Turn_Stopped : FuncId := 8
abbrev F_turn_Turn_Begin : FuncId := 9
abbrev F_turn_Turn_Ready : FuncId := 10
abbrev F_turn_Turn_Open : FuncId := 11
abbrev F_turn_Turn_Pending : FuncId := 12
abbrev F_turn_Turn_Epoch : FuncId := 13
abbrev F_tree_Right : FuncId := 14
abbrev F_tree_Kids : FuncId := 15
abbrev F_precentorlaw21_TurnKnown : FuncId := 16
abbrev F_precentorhand_Pick : FuncId := 17
abbrev F_turn_clone : FuncId := 18
abbrev F_tree_is : FuncId := 19
abbrev F_turn_Turn_Quiet : FuncId := 20
abbrev F_turn_Turn_Stop : FuncId := 21
abbrev F_runtime_boundsError_Error : FuncId := 22
abbrev F_runtime_boundsError_RuntimeError : FuncId := 23
abbrev F_runtime_errorString_Error : FuncId := 24
abbrev F_runtime_errorString_RuntimeError : FuncId := 25
abbrev F_runtime_plainError_Error : FuncId := 26
abbrev F_runtime_plainError_RuntimeError : FuncId := 27
abbrev F_runtime_errorAddressString_Error : FuncId := 28
abbrev F_runtime_errorAddressString_RuntimeError : FuncId := 29
abbrev F_runtime_TypeAssertionError_Error : FuncId := 30
abbrev F_runtime_TypeAssertionError_RuntimeError : FuncId := 31
abbrev F_runtime_PanicNilError_Error : FuncId := 32
abbrev F_runtime_PanicNilError_RuntimeError : FuncId := 33
abbrev F_internal_abi_Type_Align : FuncId := 34
abbrev F_internal_runtime_maps_unhashableTypeError_Error : FuncId := 35
abbrev F_internal_runtime_maps_unhashableTypeError_RuntimeError : FuncId := 36
abbrev F_precentorhand_Feed_Float : FuncId := 37
abbrev F_internal_abi_Kind_String : FuncId := 38
/-- Is it a package's own question whether it answers at all? -/
def isKnown (f : FuncId) : Bool := [5].contains f
def OnlyKnown (X : XTab) : Prop := ∀ f a, isKnown f = false → X f a = none

end Go.Proofs.Ytnabdpcjkbahaaa
