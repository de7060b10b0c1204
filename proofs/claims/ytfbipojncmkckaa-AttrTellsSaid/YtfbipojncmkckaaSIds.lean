/-
  The numbers of the seat's functions by name (printed by a program of ours, gen.lean).
-/
import Derived.Test.YtfbipojncmkckaaABT
import Derived.Test.YtfbipojncmkckaaChecked
set_option linter.unusedVariables false
namespace Go.Proofs.Ytfbipojncmkckaa
open Go.Ab
abbrev F_main_main : FuncId := 0
abbrev F_gosem_cut : FuncId := 1
abbrev F_gosem_cut_init : FuncId := 2
abbrev F_precentorlaw5_AttrKnown : FuncId := 3
abbrev F_precentorlaw5_AttrTells : FuncId := 4
abbrev F_precentorlaw5_AttrFinds : FuncId := 5
abbrev F_precentorlaw5_AttrOwn : FuncId := 6
abbrev F_value_Int : FuncId := 7
abbrev F_attr_Get : FuncId := 8
abbrev F_value_Same : FuncId := 9
abbrev F_attr_Right : FuncId := 10
abbrev F_attr_Word : FuncId := 11
abbrev F_attr_Same : FuncId := 12
abbrev F_attr_Copy : FuncId := 13
abbrev F_precentorlaw5_attrs : FuncId := 14
abbrev F_precentorhand_Feed_Next : FuncId := 15
abbrev F_precentorref1_Get : FuncId := 16
abbrev F_precentorref1_SameValue : FuncId := 17
abbrev F_precentorref1_Word : FuncId := 18
abbrev F_precentorlaw5_known : FuncId := 19
abbrev F_precentorref1_RightAttrs : FuncId := 20
abbrev F_precentorref1_SameAttrs : FuncId := 21
abbrev F_precentorhand_Feed_Attrs : FuncId := 22
abbrev F_precentorhand_Pick : FuncId := 23
abbrev F_float_Same : FuncId := 24
abbrev F_value_Right : FuncId := 25
abbrev F_precentorref1_Bits : FuncId := 26
abbrev F_precentorref1_RightValue : FuncId := 27
abbrev F_precentorhand_Feed_Value : FuncId := 28
abbrev F_float_Bits : FuncId := 29
abbrev F_math_Float64bits : FuncId := 30
abbrev F_precentorhand_Feed_Float : FuncId := 31
abbrev F_math_IsNaN : FuncId := 32
abbrev F_math_Copysign : FuncId := 33
abbrev F_math_NaN : FuncId := 34
abbrev F_math_Inf : FuncId := 35
abbrev F_math_Float64frombits : FuncId := 36
abbrev F_runtime_boundsError_Error : FuncId := 37
abbrev F_runtime_boundsError_RuntimeError : FuncId := 38
abbrev F_runtime_errorString_Error : FuncId := 39
abbrev F_runtime_errorString_RuntimeError : FuncId := 40
abbrev F_runtime_plainError_Error : FuncId := 41
abbrev F_runtime_plainError_RuntimeError : FuncId := 42
abbrev F_runtime_errorAddressString_Error : FuncId := 43
abbrev F_runtime_errorAddressString_RuntimeError : FuncId := 44
abbrev F_runtime_TypeAssertionError_Error : FuncId := 45
abbrev F_runtime_TypeAssertionError_RuntimeError : FuncId := 46
abbrev F_runtime_PanicNilError_Error : FuncId := 47
abbrev F_runtime_PanicNilError_RuntimeError : FuncId := 48
abbrev F_internal_abi_Type_Align : FuncId := 49
abbrev F_internal_runtime_maps_unhashableTypeError_Error : FuncId := 50
abbrev F_internal_runtime_maps_unhashableTypeError_RuntimeError : FuncId := 51
abbrev F_internal_abi_Kind_String : FuncId := 52
/-- Is it a package's own question whether it answers at all? -/
def isKnown (f : FuncId) : Bool := [19].contains f
def OnlyKnown (X : XTab) : Prop := ∀ f a, isKnown f = false → X f a = none

end Go.Proofs.Ytfbipojncmkckaa
