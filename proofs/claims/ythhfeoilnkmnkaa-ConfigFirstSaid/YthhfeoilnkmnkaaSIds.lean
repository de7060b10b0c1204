/-
  The numbers of the seat's functions by name (printed by a program of ours, gen.lean).
-/
import Derived.Test.YthhfeoilnkmnkaaABT
import Derived.Test.YthhfeoilnkmnkaaChecked
set_option linter.unusedVariables false
namespace Go.Proofs.Ythhfeoilnkmnkaa
open Go.Ab
abbrev F_main_main : FuncId := 0
abbrev F_gosem_cut : FuncId := 1
abbrev F_gosem_cut_init : FuncId := 2
abbrev F_precentorlaw10_ConfigTells : FuncId := 3
abbrev F_precentorlaw10_ConfigGrows : FuncId := 4
abbrev F_precentorlaw10_ConfigFirst : FuncId := 5
abbrev F_precentorhand_Feed_Next : FuncId := 6
abbrev F_precentorhand_Feed_Config : FuncId := 7
abbrev F_precentorhand_Pick : FuncId := 8
abbrev F_precentorlaw10_known : FuncId := 9
abbrev F_config_Check : FuncId := 10
abbrev F_precentorref9_Check : FuncId := 11
abbrev F_config_Brokers : FuncId := 12
abbrev F_precentorref9_Brokers : FuncId := 13
abbrev F_config_Flying : FuncId := 14
abbrev F_precentorref9_Flying : FuncId := 15
abbrev F_config_Room : FuncId := 16
abbrev F_precentorref9_Room : FuncId := 17
abbrev F_precentorhand_Feed_Tree : FuncId := 18
abbrev F_precentorlaw10_ConfigKnown : FuncId := 19
abbrev F_tree_Right : FuncId := 20
abbrev F_precentorref9_RightTree : FuncId := 21
abbrev F_precentorref9_between : FuncId := 22
abbrev F_runtime_boundsError_Error : FuncId := 23
abbrev F_runtime_boundsError_RuntimeError : FuncId := 24
abbrev F_runtime_errorString_Error : FuncId := 25
abbrev F_runtime_errorString_RuntimeError : FuncId := 26
abbrev F_runtime_plainError_Error : FuncId := 27
abbrev F_runtime_plainError_RuntimeError : FuncId := 28
abbrev F_runtime_errorAddressString_Error : FuncId := 29
abbrev F_runtime_errorAddressString_RuntimeError : FuncId := 30
abbrev F_runtime_TypeAssertionError_Error : FuncId := 31
abbrev F_runtime_TypeAssertionError_RuntimeError : FuncId := 32
abbrev F_runtime_PanicNilError_Error : FuncId := 33
abbrev F_runtime_PanicNilError_RuntimeError : FuncId := 34
abbrev F_internal_abi_Type_Align : FuncId := 35
abbrev F_internal_runtime_maps_unhashableTypeError_Error : FuncId := 36
abbrev F_internal_runtime_maps_unhashableTypeError_RuntimeError : FuncId := 37
abbrev F_precentorhand_Feed_Float : FuncId := 38
abbrev F_internal_abi_Kind_String : FuncId := 39
/-- Is it a package's own question whether it answers at all? -/
def isKnown (f : FuncId) : Bool := [9].contains f
def OnlyKnown (X : XTab) : Prop := ∀ f a, isKnown f = false → X f a = none

end Go.Proofs.Ythhfeoilnkmnkaa
