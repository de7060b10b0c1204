/-
  The numbers of the seat's functions by name (printed by a program of ours, gen.lean).
-/
import Derived.Test.YtnlcjindeoaklaaABT
import Derived.Test.YtnlcjindeoaklaaChecked
set_option linter.unusedVariables false
namespace Go.Proofs.Ytnlcjindeoaklaa
open Go.Ab
abbrev F_main_main : FuncId := 0
abbrev F_gosem_cut : FuncId := 1
abbrev F_gosem_cut_init : FuncId := 2
abbrev F_precentorlaw2_FloatKnown : FuncId := 3
abbrev F_precentorlaw2_FloatTells : FuncId := 4
abbrev F_precentorlaw2_FloatOrder : FuncId := 5
abbrev F_precentorlaw2_FloatBits : FuncId := 6
abbrev F_precentorlaw2_FloatExact : FuncId := 7
abbrev F_math_NaN : FuncId := 8
abbrev F_math_Inf : FuncId := 9
abbrev F_math_Copysign : FuncId := 10
abbrev F_float_CmpInt : FuncId := 11
abbrev F_float_Cmp : FuncId := 12
abbrev F_float_Of : FuncId := 13
abbrev F_float_Same : FuncId := 14
abbrev F_float_Bits : FuncId := 15
abbrev F_precentorhand_Feed_Next : FuncId := 16
abbrev F_precentorhand_Feed_Float : FuncId := 17
abbrev F_math_Float64bits : FuncId := 18
abbrev F_precentorref1_Cmp : FuncId := 19
abbrev F_precentorref1_CmpInt : FuncId := 20
abbrev F_precentorref1_Of : FuncId := 21
abbrev F_precentorlaw2_known : FuncId := 22
abbrev F_precentorref1_Bits : FuncId := 23
abbrev F_math_Signbit : FuncId := 24
abbrev F_precentorhand_Pick : FuncId := 25
abbrev F_math_Nextafter : FuncId := 26
abbrev F_math_Floor : FuncId := 27
abbrev F_math_Float64frombits : FuncId := 28
abbrev F_math_IsNaN : FuncId := 29
abbrev F_math_Trunc : FuncId := 30
abbrev F_float_sign : FuncId := 31
abbrev F_math_archFloor : FuncId := 32
abbrev F_math_floor : FuncId := 33
abbrev F_math_archTrunc : FuncId := 34
abbrev F_math_trunc : FuncId := 35
abbrev F_math_IsInf : FuncId := 36
abbrev F_math_Modf : FuncId := 37
abbrev F_math_Abs : FuncId := 38
abbrev F_runtime_boundsError_Error : FuncId := 39
abbrev F_runtime_boundsError_RuntimeError : FuncId := 40
abbrev F_runtime_errorString_Error : FuncId := 41
abbrev F_runtime_errorString_RuntimeError : FuncId := 42
abbrev F_runtime_plainError_Error : FuncId := 43
abbrev F_runtime_plainError_RuntimeError : FuncId := 44
abbrev F_runtime_errorAddressString_Error : FuncId := 45
abbrev F_runtime_errorAddressString_RuntimeError : FuncId := 46
abbrev F_runtime_TypeAssertionError_Error : FuncId := 47
abbrev F_runtime_TypeAssertionError_RuntimeError : FuncId := 48
abbrev F_runtime_PanicNilError_Error : FuncId := 49
abbrev F_runtime_PanicNilError_RuntimeError : FuncId := 50
abbrev F_internal_abi_Type_Align : FuncId := 51
abbrev F_internal_runtime_maps_unhashableTypeError_Error : FuncId := 52
abbrev F_internal_runtime_maps_unhashableTypeError_RuntimeError : FuncId := 53
abbrev F_internal_abi_Kind_String : FuncId := 54
/-- Is it a package's own question whether it answers at all? -/
def isKnown (f : FuncId) : Bool := [22].contains f
def OnlyKnown (X : XTab) : Prop := ∀ f a, isKnown f = false → X f a = none

end Go.Proofs.Ytnlcjindeoaklaa
