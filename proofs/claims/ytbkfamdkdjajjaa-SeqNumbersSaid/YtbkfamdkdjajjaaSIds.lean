/-
  The numbers of the seat's functions by name (printed by a program of ours, gen.lean).
-/
import Derived.Test.YtbkfamdkdjajjaaABT
import Derived.Test.YtbkfamdkdjajjaaChecked
set_option linter.unusedVariables false
namespace Go.Proofs.Ytbkfamdkdjajjaa
open Go.Ab
abbrev F_main_main : FuncId := 0
abbrev F_gosem_cut : FuncId := 1
abbrev F_gosem_cut_init : FuncId := 2
abbrev F_precentorlaw14_SeqKnown : FuncId := 3
abbrev F_precentorlaw14_SeqOwn : FuncId := 4
abbrev F_precentorlaw14_SeqTells : FuncId := 5
abbrev F_precentorlaw14_SeqNumbers : FuncId := 6
abbrev F_seq_New : FuncId := 7
abbrev F_seq_Seq_Pass : FuncId := 8
abbrev F_seq_Seq_Count : FuncId := 9
abbrev F_precentorlaw14_known : FuncId := 10
abbrev F_precentorlaw14_made : FuncId := 11
abbrev F_precentorhand_Pick : FuncId := 12
abbrev F_precentorref14_NewSeq : FuncId := 13
abbrev F_precentorhand_Feed_Event : FuncId := 14
abbrev F_precentorref14_Seq_Pass : FuncId := 15
abbrev F_precentorref1_SameEvent : FuncId := 16
abbrev F_precentorref14_Seq_Count : FuncId := 17
abbrev F_seq_Seq_own : FuncId := 18
abbrev F_seq_has : FuncId := 19
abbrev F_precentorhand_Feed_Tree : FuncId := 20
abbrev F_precentorhand_Feed_Subs : FuncId := 21
abbrev F_precentorref9_Chain : FuncId := 22
abbrev F_precentorref9_Walk : FuncId := 23
abbrev F_precentorref9_Match : FuncId := 24
abbrev F_precentorref9_Groups : FuncId := 25
abbrev F_precentorhand_Feed_Attrs : FuncId := 26
abbrev F_precentorhand_Feed_Next : FuncId := 27
abbrev F_precentorhand_Feed_Stamps : FuncId := 28
abbrev F_precentorref9_In : FuncId := 29
abbrev F_precentorref1_SameAttrs : FuncId := 30
abbrev F_precentorhand_Feed_Filter : FuncId := 31
abbrev F_precentorhand_Filter : FuncId := 32
abbrev F_precentorref9_RightTree : FuncId := 33
abbrev F_precentorref9_RightSubs : FuncId := 34
abbrev F_precentorref9_Shared : FuncId := 35
abbrev F_precentorref9_Of : FuncId := 36
abbrev F_precentorref9_Place : FuncId := 37
abbrev F_precentorref1_Takes : FuncId := 38
abbrev F_precentorref1_SameFilter : FuncId := 39
abbrev F_precentorref9_Put : FuncId := 40
abbrev F_precentorhand_Feed_Value : FuncId := 41
abbrev F_precentorref1_SameValue : FuncId := 42
abbrev F_precentorhand_Feed_Name : FuncId := 43
abbrev F_precentorhand_Feed_Pred : FuncId := 44
abbrev F_precentorref9_between : FuncId := 45
abbrev F_precentorref1_RightFilter : FuncId := 46
abbrev F_precentorref9_has : FuncId := 47
abbrev F_precentorref9_Dist : FuncId := 48
abbrev F_precentorref1_Get : FuncId := 49
abbrev F_precentorref1_TakesValue : FuncId := 50
abbrev F_precentorref1_SamePred : FuncId := 51
abbrev F_precentorhand_Feed_Float : FuncId := 52
abbrev F_precentorref1_Bits : FuncId := 53
abbrev F_precentorref1_RightPred : FuncId := 54
abbrev F_precentorref9_Way : FuncId := 55
abbrev F_precentorref1_CmpValue : FuncId := 56
abbrev F_precentorref1_prefix : FuncId := 57
abbrev F_precentorref1_Is : FuncId := 58
abbrev F_precentorref1_sameValues : FuncId := 59
abbrev F_math_Copysign : FuncId := 60
abbrev F_math_NaN : FuncId := 61
abbrev F_math_Inf : FuncId := 62
abbrev F_math_Float64bits : FuncId := 63
abbrev F_precentorref1_Word : FuncId := 64
abbrev F_precentorref1_zero : FuncId := 65
abbrev F_precentorref1_RightValue : FuncId := 66
abbrev F_precentorref9_up : FuncId := 67
abbrev F_precentorref1_CmpInt : FuncId := 68
abbrev F_precentorref1_Cmp : FuncId := 69
abbrev F_math_Float64frombits : FuncId := 70
abbrev F_math_Trunc : FuncId := 71
abbrev F_math_archTrunc : FuncId := 72
abbrev F_math_trunc : FuncId := 73
abbrev F_math_Abs : FuncId := 74
abbrev F_runtime_boundsError_Error : FuncId := 75
abbrev F_runtime_boundsError_RuntimeError : FuncId := 76
abbrev F_runtime_errorString_Error : FuncId := 77
abbrev F_runtime_errorString_RuntimeError : FuncId := 78
abbrev F_runtime_plainError_Error : FuncId := 79
abbrev F_runtime_plainError_RuntimeError : FuncId := 80
abbrev F_runtime_errorAddressString_Error : FuncId := 81
abbrev F_runtime_errorAddressString_RuntimeError : FuncId := 82
abbrev F_runtime_TypeAssertionError_Error : FuncId := 83
abbrev F_runtime_TypeAssertionError_RuntimeError : FuncId := 84
abbrev F_runtime_PanicNilError_Error : FuncId := 85
abbrev F_runtime_PanicNilError_RuntimeError : FuncId := 86
abbrev F_internal_abi_Type_Align : FuncId := 87
abbrev F_internal_runtime_maps_unhashableTypeError_Error : FuncId := 88
abbrev F_internal_runtime_maps_unhashableTypeError_RuntimeError : FuncId := 89
abbrev F_internal_abi_Kind_String : FuncId := 90
/-- Is it a package's own question whether it answers at all? -/
def isKnown (f : FuncId) : Bool := [10].contains f
def OnlyKnown (X : XTab) : Prop := ∀ f a, isKnown f = false → X f a = none

end Go.Proofs.Ytbkfamdkdjajjaa
