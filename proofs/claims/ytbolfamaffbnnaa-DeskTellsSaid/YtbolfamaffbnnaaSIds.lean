/-
  The numbers of the seat's functions by name (printed by a program of ours, gen.lean).
-/
import Derived.Test.YtbolfamaffbnnaaABT
import Derived.Test.YtbolfamaffbnnaaChecked
set_option linter.unusedVariables false
namespace Go.Proofs.Ytbolfamaffbnnaa
open Go.Ab
abbrev F_main_main : FuncId := 0
abbrev F_gosem_cut : FuncId := 1
abbrev F_gosem_cut_init : FuncId := 2
abbrev F_precentorlaw22_DeskKnown : FuncId := 3
abbrev F_precentorlaw22_DeskOne : FuncId := 4
abbrev F_precentorlaw22_DeskTells : FuncId := 5
abbrev F_precentorlaw22_DeskPolls : FuncId := 6
abbrev F_desk_New : FuncId := 7
abbrev F_desk_Desk_Attach : FuncId := 8
abbrev F_desk_Desk_Subscribe : FuncId := 9
abbrev F_desk_Desk_Busy : FuncId := 10
abbrev F_desk_Desk_Open : FuncId := 11
abbrev F_desk_Desk_Unsubscribe : FuncId := 12
abbrev F_desk_Desk_Hear : FuncId := 13
abbrev F_desk_Desk_Log : FuncId := 14
abbrev F_desk_Desk_Clients : FuncId := 15
abbrev F_desk_Desk_Poll : FuncId := 16
abbrev F_precentorlaw22_known : FuncId := 17
abbrev F_precentorhand_Feed_Next : FuncId := 18
abbrev F_precentorhand_Pick : FuncId := 19
abbrev F_precentorref14_Desk_Attach : FuncId := 20
abbrev F_precentorhand_Feed_Filter : FuncId := 21
abbrev F_precentorref14_Desk_Subscribe : FuncId := 22
abbrev F_precentorlaw22_sameChange : FuncId := 23
abbrev F_precentorref14_Desk_Unsubscribe : FuncId := 24
abbrev F_precentorref9_Apply : FuncId := 25
abbrev F_precentorref14_Desk_Open : FuncId := 26
abbrev F_precentorhand_Feed_Attrs : FuncId := 27
abbrev F_precentorref14_Desk_Hear : FuncId := 28
abbrev F_precentorref14_Desk_Poll : FuncId := 29
abbrev F_precentorlaw22_sameSeen : FuncId := 30
abbrev F_precentorref14_Desk_Busy : FuncId := 31
abbrev F_precentorref14_Desk_Here : FuncId := 32
abbrev F_desk_Desk_seat : FuncId := 33
abbrev F_filter_Right : FuncId := 34
abbrev F_filter_Copy : FuncId := 35
abbrev F_subs_Of : FuncId := 36
abbrev F_subs_Has : FuncId := 37
abbrev F_desk_clone : FuncId := 38
abbrev F_precentorhand_Feed_Name : FuncId := 39
abbrev F_precentorhand_Feed_Pred : FuncId := 40
abbrev F_precentorref1_RightFilter : FuncId := 41
abbrev F_precentorref1_SameSub : FuncId := 42
abbrev F_precentorref9_Has : FuncId := 43
abbrev F_precentorref9_Of : FuncId := 44
abbrev F_precentorhand_Feed_Value : FuncId := 45
abbrev F_precentorref1_SameAttrs : FuncId := 46
abbrev F_pred_Right : FuncId := 47
abbrev F_subs_clone : FuncId := 48
abbrev F_attr_Copy : FuncId := 49
abbrev F_precentorref1_RightPred : FuncId := 50
abbrev F_precentorref1_SameFilter : FuncId := 51
abbrev F_precentorhand_Feed_Float : FuncId := 52
abbrev F_precentorref1_SameValue : FuncId := 53
abbrev F_attr_Word : FuncId := 54
abbrev F_pred_zero : FuncId := 55
abbrev F_value_Right : FuncId := 56
abbrev F_pred_values : FuncId := 57
abbrev F_precentorref1_Word : FuncId := 58
abbrev F_precentorref1_zero : FuncId := 59
abbrev F_precentorref1_RightValue : FuncId := 60
abbrev F_precentorref1_SamePred : FuncId := 61
abbrev F_math_Copysign : FuncId := 62
abbrev F_math_NaN : FuncId := 63
abbrev F_math_Inf : FuncId := 64
abbrev F_precentorref1_Bits : FuncId := 65
abbrev F_value_Same : FuncId := 66
abbrev F_precentorref1_sameValues : FuncId := 67
abbrev F_math_Float64frombits : FuncId := 68
abbrev F_math_Float64bits : FuncId := 69
abbrev F_float_Same : FuncId := 70
abbrev F_float_Bits : FuncId := 71
abbrev F_math_IsNaN : FuncId := 72
abbrev F_runtime_boundsError_Error : FuncId := 73
abbrev F_runtime_boundsError_RuntimeError : FuncId := 74
abbrev F_runtime_errorString_Error : FuncId := 75
abbrev F_runtime_errorString_RuntimeError : FuncId := 76
abbrev F_runtime_plainError_Error : FuncId := 77
abbrev F_runtime_plainError_RuntimeError : FuncId := 78
abbrev F_runtime_errorAddressString_Error : FuncId := 79
abbrev F_runtime_errorAddressString_RuntimeError : FuncId := 80
abbrev F_runtime_TypeAssertionError_Error : FuncId := 81
abbrev F_runtime_TypeAssertionError_RuntimeError : FuncId := 82
abbrev F_runtime_PanicNilError_Error : FuncId := 83
abbrev F_runtime_PanicNilError_RuntimeError : FuncId := 84
abbrev F_internal_abi_Type_Align : FuncId := 85
abbrev F_internal_runtime_maps_unhashableTypeError_Error : FuncId := 86
abbrev F_internal_runtime_maps_unhashableTypeError_RuntimeError : FuncId := 87
abbrev F_internal_abi_Kind_String : FuncId := 88
/-- Is it a package's own question whether it answers at all? -/
def isKnown (f : FuncId) : Bool := [17].contains f
def OnlyKnown (X : XTab) : Prop := ∀ f a, isKnown f = false → X f a = none

end Go.Proofs.Ytbolfamaffbnnaa
