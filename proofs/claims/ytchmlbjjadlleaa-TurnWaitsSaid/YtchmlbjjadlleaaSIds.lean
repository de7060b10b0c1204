/-
  The numbers of the seat's functions by name (printed by a program of ours, gen.lean).
-/
import Derived.Test.YtchmlbjjadlleaaABT
import Derived.Test.YtchmlbjjadlleaaChecked
set_option linter.unusedVariables false
namespace Go.Proofs.Ytchmlbjjadlleaa
open Go.Ab
abbrev F_main_main : FuncId := 0
abbrev F_gosem_cut : FuncId := 1
abbrev F_gosem_cut_init : FuncId := 2
abbrev F_precentorlaw21_TurnKnown : FuncId := 3
abbrev F_precentorlaw21_TurnKeeps : FuncId := 4
abbrev F_precentorlaw21_TurnTells : FuncId := 5
abbrev F_precentorlaw21_TurnWaits : FuncId := 6
abbrev F_turn_New : FuncId := 7
abbrev F_turn_Turn_Begin : FuncId := 8
abbrev F_turn_Turn_Add : FuncId := 9
abbrev F_turn_Turn_Pending : FuncId := 10
abbrev F_turn_Turn_Stopped : FuncId := 11
abbrev F_turn_Turn_Ready : FuncId := 12
abbrev F_turn_Turn_Quiet : FuncId := 13
abbrev F_turn_Turn_Open : FuncId := 14
abbrev F_turn_Turn_Epoch : FuncId := 15
abbrev F_turn_Turn_Stop : FuncId := 16
abbrev F_precentorlaw21_known : FuncId := 17
abbrev F_precentorhand_Feed_Next : FuncId := 18
abbrev F_precentorhand_Feed_Tree : FuncId := 19
abbrev F_precentorhand_Pick : FuncId := 20
abbrev F_precentorref14_NewTurn : FuncId := 21
abbrev F_precentorref14_Turn_Add : FuncId := 22
abbrev F_precentorref14_Turn_Begin : FuncId := 23
abbrev F_precentorref14_Turn_Stop : FuncId := 24
abbrev F_precentorref14_Turn_Quiet : FuncId := 25
abbrev F_precentorref14_Turn_IsReady : FuncId := 26
abbrev F_precentorref14_Turn_Open : FuncId := 27
abbrev F_precentorref1_SameSub : FuncId := 28
abbrev F_tree_Next : FuncId := 29
abbrev F_tree_Side : FuncId := 30
abbrev F_tree_Right : FuncId := 31
abbrev F_tree_Kids : FuncId := 32
abbrev F_turn_clone : FuncId := 33
abbrev F_precentorref9_RightTree : FuncId := 34
abbrev F_precentorref9_In : FuncId := 35
abbrev F_precentorref9_Kids : FuncId := 36
abbrev F_precentorref9_Put : FuncId := 37
abbrev F_precentorref1_SameFilter : FuncId := 38
abbrev F_tree_is : FuncId := 39
abbrev F_tree_path : FuncId := 40
abbrev F_precentorref9_has : FuncId := 41
abbrev F_precentorref1_SamePred : FuncId := 42
abbrev F_tree_up : FuncId := 43
abbrev F_precentorref1_SameValue : FuncId := 44
abbrev F_precentorref1_sameValues : FuncId := 45
abbrev F_precentorref1_Bits : FuncId := 46
abbrev F_math_Float64bits : FuncId := 47
abbrev F_runtime_boundsError_Error : FuncId := 48
abbrev F_runtime_boundsError_RuntimeError : FuncId := 49
abbrev F_runtime_errorString_Error : FuncId := 50
abbrev F_runtime_errorString_RuntimeError : FuncId := 51
abbrev F_runtime_plainError_Error : FuncId := 52
abbrev F_runtime_plainError_RuntimeError : FuncId := 53
abbrev F_runtime_errorAddressString_Error : FuncId := 54
abbrev F_runtime_errorAddressString_RuntimeError : FuncId := 55
abbrev F_runtime_TypeAssertionError_Error : FuncId := 56
abbrev F_runtime_TypeAssertionError_RuntimeError : FuncId := 57
abbrev F_runtime_PanicNilError_Error : FuncId := 58
abbrev F_runtime_PanicNilError_RuntimeError : FuncId := 59
abbrev F_internal_abi_Type_Align : FuncId := 60
abbrev F_internal_runtime_maps_unhashableTypeError_Error : FuncId := 61
abbrev F_internal_runtime_maps_unhashableTypeError_RuntimeError : FuncId := 62
abbrev F_precentorhand_Feed_Float : FuncId := 63
abbrev F_internal_abi_Kind_String : FuncId := 64
/-- Is it a package's own question whether it answers at all? -/
def isKnown (f : FuncId) : Bool := [17].contains f
def OnlyKnown (X : XTab) : Prop := ∀ f a, isKnown f = false → X f a = none

end Go.Proofs.Ytchmlbjjadlleaa
