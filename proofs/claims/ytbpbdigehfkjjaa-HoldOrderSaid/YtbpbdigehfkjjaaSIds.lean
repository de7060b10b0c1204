/-
  The numbers of the seat's functions by name (printed by a program of ours, gen.lean).
-/
import Derived.Test.YtbpbdigehfkjjaaABT
import Derived.Test.YtbpbdigehfkjjaaChecked
set_option linter.unusedVariables false
namespace Go.Proofs.Ytbpbdigehfkjjaa
open Go.Ab
abbrev F_main_main : FuncId := 0
abbrev F_gosem_cut : FuncId := 1
abbrev F_gosem_cut_init : FuncId := 2
abbrev F_precentorlaw16_HoldOrder : FuncId := 3
abbrev F_precentorlaw16_HoldKeeps : FuncId := 4
abbrev F_precentorlaw16_HoldTells : FuncId := 5
abbrev F_precentorhand_Feed_Next : FuncId := 6
abbrev F_precentorhand_Pick : FuncId := 7
abbrev F_hold_New : FuncId := 8
abbrev F_precentorlaw16_known : FuncId := 9
abbrev F_hold_Hold_Put : FuncId := 10
abbrev F_hold_Hold_Next : FuncId := 11
abbrev F_hold_Hold_Len : FuncId := 12
abbrev F_precentorhand_Feed_Event : FuncId := 13
abbrev F_precentorref1_SameEvent : FuncId := 14
abbrev F_precentorref14_NewHold : FuncId := 15
abbrev F_precentorref9_Clock_Next : FuncId := 16
abbrev F_precentorref14_Hold_Put : FuncId := 17
abbrev F_precentorref14_Hold_Next : FuncId := 18
abbrev F_precentorlaw16_sameClock : FuncId := 19
abbrev F_hold_Hold_Clock : FuncId := 20
abbrev F_clock_New : FuncId := 21
abbrev F_precentorlaw16_HoldKnown : FuncId := 22
abbrev F_hold_clone : FuncId := 23
abbrev F_clock_Clock_Due : FuncId := 24
abbrev F_clock_Clock_Take : FuncId := 25
abbrev F_precentorhand_Feed_Attrs : FuncId := 26
abbrev F_precentorhand_Feed_Stamps : FuncId := 27
abbrev F_precentorref1_SameAttrs : FuncId := 28
abbrev F_precentorref9_NewClock : FuncId := 29
abbrev F_precentorref9_Clock_Due : FuncId := 30
abbrev F_precentorref9_Clock_Take : FuncId := 31
abbrev F_clock_Clock_Own : FuncId := 32
abbrev F_clock_Clock_Next : FuncId := 33
abbrev F_precentorlaw16_event : FuncId := 34
abbrev F_clock_Clock_find : FuncId := 35
abbrev F_precentorhand_Feed_Value : FuncId := 36
abbrev F_precentorref1_SameValue : FuncId := 37
abbrev F_precentorref9_Put : FuncId := 38
abbrev F_precentorref9_In : FuncId := 39
abbrev F_precentorhand_Feed_Float : FuncId := 40
abbrev F_precentorref1_Bits : FuncId := 41
abbrev F_math_Copysign : FuncId := 42
abbrev F_math_NaN : FuncId := 43
abbrev F_math_Inf : FuncId := 44
abbrev F_math_Float64bits : FuncId := 45
abbrev F_math_Float64frombits : FuncId := 46
abbrev F_runtime_boundsError_Error : FuncId := 47
abbrev F_runtime_boundsError_RuntimeError : FuncId := 48
abbrev F_runtime_errorString_Error : FuncId := 49
abbrev F_runtime_errorString_RuntimeError : FuncId := 50
abbrev F_runtime_plainError_Error : FuncId := 51
abbrev F_runtime_plainError_RuntimeError : FuncId := 52
abbrev F_runtime_errorAddressString_Error : FuncId := 53
abbrev F_runtime_errorAddressString_RuntimeError : FuncId := 54
abbrev F_runtime_TypeAssertionError_Error : FuncId := 55
abbrev F_runtime_TypeAssertionError_RuntimeError : FuncId := 56
abbrev F_runtime_PanicNilError_Error : FuncId := 57
abbrev F_runtime_PanicNilError_RuntimeError : FuncId := 58
abbrev F_internal_abi_Type_Align : FuncId := 59
abbrev F_internal_runtime_maps_unhashableTypeError_Error : FuncId := 60
abbrev F_internal_runtime_maps_unhashableTypeError_RuntimeError : FuncId := 61
abbrev F_internal_abi_Kind_String : FuncId := 62
/-- Is it a package's own question whether it answers at all? -/
def isKnown (f : FuncId) : Bool := [9].contains f
def OnlyKnown (X : XTab) : Prop := ∀ f a, isKnown f = false → X f a = none

end Go.Proofs.Ytbpbdigehfkjjaa
