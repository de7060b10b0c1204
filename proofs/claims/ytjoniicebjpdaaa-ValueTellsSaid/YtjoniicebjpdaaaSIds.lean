/-
  The numbers of the seat's functions by name (printed by a program of ours, gen.lean).
-/
import Derived.Test.YtjoniicebjpdaaaABT
import Derived.Test.YtjoniicebjpdaaaChecked
set_option linter.unusedVariables false
namespace Go.Proofs.Ytjoniicebjpdaaa
open Go.Ab
abbrev F_main_main : FuncId := 0
abbrev F_gosem_cut : FuncId := 1
abbrev F_gosem_cut_init : FuncId := 2
abbrev F_precentorlaw3_ValueKnown : FuncId := 3
abbrev F_precentorlaw3_ValueTells : FuncId := 4
abbrev F_precentorlaw3_ValueOrder : FuncId := 5
abbrev F_precentorlaw3_ValueSame : FuncId := 6
abbrev F_value_Float : FuncId := 7
abbrev F_math_NaN : FuncId := 8
abbrev F_value_Cmp : FuncId := 9
abbrev F_value_Int : FuncId := 10
abbrev F_value_Bool : FuncId := 11
abbrev F_value_Text : FuncId := 12
abbrev F_math_Copysign : FuncId := 13
abbrev F_value_Is : FuncId := 14
abbrev F_value_Same : FuncId := 15
abbrev F_value_Right : FuncId := 16
abbrev F_precentorhand_Feed_Next : FuncId := 17
abbrev F_precentorhand_Feed_Value : FuncId := 18
abbrev F_precentorref1_CmpValue : FuncId := 19
abbrev F_precentorlaw3_known : FuncId := 20
abbrev F_precentorref1_RightValue : FuncId := 21
abbrev F_precentorref1_SameValue : FuncId := 22
abbrev F_precentorref1_Is : FuncId := 23
abbrev F_math_Float64frombits : FuncId := 24
abbrev F_value_order : FuncId := 25
abbrev F_float_Cmp : FuncId := 26
abbrev F_float_CmpInt : FuncId := 27
abbrev F_math_Float64bits : FuncId := 28
abbrev F_float_Same : FuncId := 29
abbrev F_precentorhand_Pick : FuncId := 30
abbrev F_precentorhand_Feed_Float : FuncId := 31
abbrev F_precentorref1_CmpInt : FuncId := 32
abbrev F_precentorref1_Cmp : FuncId := 33
abbrev F_precentorref1_Bits : FuncId := 34
abbrev F_math_IsNaN : FuncId := 35
abbrev F_float_sign : FuncId := 36
abbrev F_math_Trunc : FuncId := 37
abbrev F_float_Bits : FuncId := 38
abbrev F_math_Inf : FuncId := 39
abbrev F_math_archTrunc : FuncId := 40
abbrev F_math_trunc : FuncId := 41
abbrev F_math_Abs : FuncId := 42
abbrev F_runtime_boundsError_Error : FuncId := 43
abbrev F_runtime_boundsError_RuntimeError : FuncId := 44
abbrev F_runtime_errorString_Error : FuncId := 45
abbrev F_runtime_errorString_RuntimeError : FuncId := 46
abbrev F_runtime_plainError_Error : FuncId := 47
abbrev F_runtime_plainError_RuntimeError : FuncId := 48
abbrev F_runtime_errorAddressString_Error : FuncId := 49
abbrev F_runtime_errorAddressString_RuntimeError : FuncId := 50
abbrev F_runtime_TypeAssertionError_Error : FuncId := 51
abbrev F_runtime_TypeAssertionError_RuntimeError : FuncId := 52
abbrev F_runtime_PanicNilError_Error : FuncId := 53
abbrev F_runtime_PanicNilError_RuntimeError : FuncId := 54
abbrev F_internal_abi_Type_Align : FuncId := 55
abbrev F_internal_runtime_maps_unhashableTypeError_Error : FuncId := 56
abbrev F_internal_runtime_maps_unhashableTypeError_RuntimeError : FuncId := 57
abbrev F_internal_abi_Kind_String : FuncId := 58
/-- Is it a package's own question whether it answers at all? -/
def isKnown (f : FuncId) : Bool := [20].contains f
def OnlyKnown (X : XTab) : Prop := ∀ f a, isKnown f = false → X f a = none

end Go.Proofs.Ytjoniicebjpdaaa
