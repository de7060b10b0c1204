/-
  The numbers of the seat's functions by name (printed by a program of ours, gen.lean).
-/
import Derived.Test.YtooeiefgnhgbeaaABT
import Derived.Test.YtooeiefgnhgbeaaChecked
set_option linter.unusedVariables false
namespace Go.Proofs.Ytooeiefgnhgbeaa
open Go.Ab
abbrev F_main_main : FuncId := 0
abbrev F_gosem_cut : FuncId := 1
abbrev F_gosem_cut_init : FuncId := 2
abbrev F_precentorlaw11_SubsKnown : FuncId := 3
abbrev F_precentorlaw11_SubsTells : FuncId := 4
abbrev F_precentorlaw11_SubsMap : FuncId := 5
abbrev F_precentorlaw11_SubsOwn : FuncId := 6
abbrev F_precentorlaw11_sub : FuncId := 7
abbrev F_subs_Apply : FuncId := 8
abbrev F_subs_Brokers : FuncId := 9
abbrev F_subs_Has : FuncId := 10
abbrev F_subs_Right : FuncId := 11
abbrev F_subs_Of : FuncId := 12
abbrev F_subs_Same : FuncId := 13
abbrev F_precentorlaw11_some : FuncId := 14
abbrev F_precentorhand_Feed_Next : FuncId := 15
abbrev F_precentorlaw11_changes : FuncId := 16
abbrev F_precentorref9_Homes : FuncId := 17
abbrev F_precentorlaw11_known : FuncId := 18
abbrev F_precentorref9_RightSubs : FuncId := 19
abbrev F_precentorref1_SameSubs : FuncId := 20
abbrev F_precentorref9_Apply : FuncId := 21
abbrev F_precentorref9_Of : FuncId := 22
abbrev F_precentorref9_Has : FuncId := 23
abbrev F_precentorhand_Feed_Subs : FuncId := 24
abbrev F_precentorhand_Feed_Filter : FuncId := 25
abbrev F_filter_Same : FuncId := 26
abbrev F_precentorhand_Pick : FuncId := 27
abbrev F_subs_copies : FuncId := 28
abbrev F_subs_gone : FuncId := 29
abbrev F_subs_come : FuncId := 30
abbrev F_subs_clone : FuncId := 31
abbrev F_subs_lay : FuncId := 32
abbrev F_subs_may : FuncId := 33
abbrev F_precentorref9_In : FuncId := 34
abbrev F_precentorref9_Put : FuncId := 35
abbrev F_precentorref9_between : FuncId := 36
abbrev F_precentorref1_RightFilter : FuncId := 37
abbrev F_precentorref1_SameSub : FuncId := 38
abbrev F_precentorhand_Filter : FuncId := 39
abbrev F_precentorhand_Feed_Name : FuncId := 40
abbrev F_precentorhand_Feed_Pred : FuncId := 41
abbrev F_pred_Same : FuncId := 42
abbrev F_filter_Copy : FuncId := 43
abbrev F_filter_Right : FuncId := 44
abbrev F_precentorref1_RightPred : FuncId := 45
abbrev F_precentorref1_SameFilter : FuncId := 46
abbrev F_precentorhand_Feed_Value : FuncId := 47
abbrev F_value_Same : FuncId := 48
abbrev F_pred_Right : FuncId := 49
abbrev F_precentorref1_Word : FuncId := 50
abbrev F_precentorref1_zero : FuncId := 51
abbrev F_precentorref1_RightValue : FuncId := 52
abbrev F_precentorref1_SamePred : FuncId := 53
abbrev F_precentorhand_Feed_Float : FuncId := 54
abbrev F_float_Same : FuncId := 55
abbrev F_attr_Word : FuncId := 56
abbrev F_pred_zero : FuncId := 57
abbrev F_value_Right : FuncId := 58
abbrev F_pred_values : FuncId := 59
abbrev F_precentorref1_SameValue : FuncId := 60
abbrev F_precentorref1_sameValues : FuncId := 61
abbrev F_math_Copysign : FuncId := 62
abbrev F_math_NaN : FuncId := 63
abbrev F_math_Inf : FuncId := 64
abbrev F_float_Bits : FuncId := 65
abbrev F_precentorref1_Bits : FuncId := 66
abbrev F_math_Float64frombits : FuncId := 67
abbrev F_math_Float64bits : FuncId := 68
abbrev F_math_IsNaN : FuncId := 69
abbrev F_runtime_boundsError_Error : FuncId := 70
abbrev F_runtime_boundsError_RuntimeError : FuncId := 71
abbrev F_runtime_errorString_Error : FuncId := 72
abbrev F_runtime_errorString_RuntimeError : FuncId := 73
abbrev F_runtime_plainError_Error : FuncId := 74
abbrev F_runtime_plainError_RuntimeError : FuncId := 75
abbrev F_runtime_errorAddressString_Error : FuncId := 76
abbrev F_runtime_errorAddressString_RuntimeError : FuncId := 77
abbrev F_runtime_TypeAssertionError_Error : FuncId := 78
abbrev F_runtime_TypeAssertionError_RuntimeError : FuncId := 79
abbrev F_runtime_PanicNilError_Error : FuncId := 80
abbrev F_runtime_PanicNilError_RuntimeError : FuncId := 81
abbrev F_internal_abi_Type_Align : FuncId := 82
abbrev F_internal_runtime_maps_unhashableTypeError_Error : FuncId := 83
abbrev F_internal_runtime_maps_unhashableTypeError_RuntimeError : FuncId := 84
abbrev F_internal_abi_Kind_String : FuncId := 85
/-- Is it a package's own question whether it answers at all? -/
def isKnown (f : FuncId) : Bool := [18].contains f
def OnlyKnown (X : XTab) : Prop := ∀ f a, isKnown f = false → X f a = none

end Go.Proofs.Ytooeiefgnhgbeaa
