/-
  The numbers of the seat's functions by name (printed by a program of ours, gen.lean).
-/
import Derived.Test.YthachecebkmlaaaABT
import Derived.Test.YthachecebkmlaaaChecked
set_option linter.unusedVariables false
namespace Go.Proofs.Ythachecebkmlaaa
open Go.Ab
abbrev F_main_main : FuncId := 0
abbrev F_gosem_cut : FuncId := 1
abbrev F_gosem_cut_init : FuncId := 2
abbrev F_precentorlaw9_TreeTells : FuncId := 3
abbrev F_precentorlaw9_TreeWays : FuncId := 4
abbrev F_precentorlaw9_TreeSides : FuncId := 5
abbrev F_precentorlaw9_TreePlaces : FuncId := 6
abbrev F_precentorlaw9_parents : FuncId := 7
abbrev F_precentorlaw9_known : FuncId := 8
abbrev F_tree_Right : FuncId := 9
abbrev F_precentorref9_RightTree : FuncId := 10
abbrev F_precentorhand_Feed_Next : FuncId := 11
abbrev F_precentorlaw9_same : FuncId := 12
abbrev F_tree_Near : FuncId := 13
abbrev F_precentorref9_Near : FuncId := 14
abbrev F_tree_Kids : FuncId := 15
abbrev F_precentorref9_Kids : FuncId := 16
abbrev F_tree_Next : FuncId := 17
abbrev F_precentorref9_Next : FuncId := 18
abbrev F_tree_Dist : FuncId := 19
abbrev F_precentorref9_Dist : FuncId := 20
abbrev F_tree_Side : FuncId := 21
abbrev F_precentorref9_Side : FuncId := 22
abbrev F_precentorhand_Pick : FuncId := 23
abbrev F_tree_Place : FuncId := 24
abbrev F_precentorref9_Place : FuncId := 25
abbrev F_precentorhand_Feed_Tree : FuncId := 26
abbrev F_precentorlaw9_TreePlaces_1 : FuncId := 27
abbrev F_precentorlaw9_TreeKnown : FuncId := 28
abbrev F_tree_is : FuncId := 29
abbrev F_precentorref9_has : FuncId := 30
abbrev F_tree_path : FuncId := 31
abbrev F_precentorref9_Way : FuncId := 32
abbrev F_tree_up : FuncId := 33
abbrev F_precentorref9_up : FuncId := 34
abbrev F_runtime_boundsError_Error : FuncId := 35
abbrev F_runtime_boundsError_RuntimeError : FuncId := 36
abbrev F_runtime_errorString_Error : FuncId := 37
abbrev F_runtime_errorString_RuntimeError : FuncId := 38
abbrev F_runtime_plainError_Error : FuncId := 39
abbrev F_runtime_plainError_RuntimeError : FuncId := 40
abbrev F_runtime_errorAddressString_Error : FuncId := 41
abbrev F_runtime_errorAddressString_RuntimeError : FuncId := 42
abbrev F_runtime_TypeAssertionError_Error : FuncId := 43
abbrev F_runtime_TypeAssertionError_RuntimeError : FuncId := 44
abbrev F_runtime_PanicNilError_Error : FuncId := 45
abbrev F_runtime_PanicNilError_RuntimeError : FuncId := 46
abbrev F_internal_abi_Type_Align : FuncId := 47
abbrev F_internal_runtime_maps_unhashableTypeError_Error : FuncId := 48
abbrev F_internal_runtime_maps_unhashableTypeError_RuntimeError : FuncId := 49
abbrev F_precentorhand_Feed_Float : FuncId := 50
abbrev F_internal_abi_Kind_String : FuncId := 51
/-- Is it a package's own question whether it answers at all? -/
def isKnown (f : FuncId) : Bool := [8].contains f
def OnlyKnown (X : XTab) : Prop := ∀ f a, isKnown f = false → X f a = none

end Go.Proofs.Ythachecebkmlaaa
