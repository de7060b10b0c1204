/-
  The numbers of the seat's functions by name (printed by a program of ours, gen.lean).
-/
import Derived.Test.YthepnokmoaipfaaABT
import Derived.Test.YthepnokmoaipfaaChecked
set_option linter.unusedVariables false
namespace Go.Proofs.Ythepnokmoaipfaa
open Go.Ab
abbrev F_main_main : FuncId := 0
abbrev F_gosem_cut : FuncId := 1
abbrev F_gosem_cut_init : FuncId := 2
abbrev F_precentorlaw19_BagKnown : FuncId := 3
abbrev F_precentorlaw19_BagTells : FuncId := 4
abbrev F_precentorlaw19_BagOwn : FuncId := 5
abbrev F_precentorlaw19_BagOrder : FuncId := 6
abbrev F_bag_Bag_Put : FuncId := 7
abbrev F_precentorlaw19_datagram : FuncId := 8
abbrev F_bag_Bag_Twice : FuncId := 9
abbrev F_bag_Bag_Take : FuncId := 10
abbrev F_bag_Bag_All : FuncId := 11
abbrev F_bag_Bag_Len : FuncId := 12
abbrev F_bag_Bag_Drop : FuncId := 13
abbrev F_precentorhand_Feed_Next : FuncId := 14
abbrev F_precentorhand_Few : FuncId := 15
abbrev F_precentorref14_Bag_Put : FuncId := 16
abbrev F_precentorref14_Bag_Take : FuncId := 17
abbrev F_precentorlaw19_same : FuncId := 18
abbrev F_precentorref14_Bag_Twice : FuncId := 19
abbrev F_precentorlaw19_known : FuncId := 20
abbrev F_bag_clone : FuncId := 21
abbrev F_bag_Bag_is : FuncId := 22
abbrev F_precentorhand_Pick : FuncId := 23
abbrev F_runtime_boundsError_Error : FuncId := 24
abbrev F_runtime_boundsError_RuntimeError : FuncId := 25
abbrev F_runtime_errorString_Error : FuncId := 26
abbrev F_runtime_errorString_RuntimeError : FuncId := 27
abbrev F_runtime_plainError_Error : FuncId := 28
abbrev F_runtime_plainError_RuntimeError : FuncId := 29
abbrev F_runtime_errorAddressString_Error : FuncId := 30
abbrev F_runtime_errorAddressString_RuntimeError : FuncId := 31
abbrev F_runtime_TypeAssertionError_Error : FuncId := 32
abbrev F_runtime_TypeAssertionError_RuntimeError : FuncId := 33
abbrev F_runtime_PanicNilError_Error : FuncId := 34
abbrev F_runtime_PanicNilError_RuntimeError : FuncId := 35
abbrev F_internal_abi_Type_Align : FuncId := 36
abbrev F_internal_runtime_maps_unhashableTypeError_Error : FuncId := 37
abbrev F_internal_runtime_maps_unhashableTypeError_RuntimeError : FuncId := 38
abbrev F_precentorhand_Feed_Float : FuncId := 39
abbrev F_internal_abi_Kind_String : FuncId := 40
/-- Is it a package's own question whether it answers at all? -/
def isKnown (f : FuncId) : Bool := [20].contains f
def OnlyKnown (X : XTab) : Prop := ∀ f a, isKnown f = false → X f a = none

end Go.Proofs.Ythepnokmoaipfaa
