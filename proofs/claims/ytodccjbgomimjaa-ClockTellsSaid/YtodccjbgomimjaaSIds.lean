/-
  The numbers of the seat's functions by name (printed by a program of ours, gen.lean).
-/
import Derived.Test.YtodccjbgomimjaaABT
import Derived.Test.YtodccjbgomimjaaChecked
set_option linter.unusedVariables false
namespace Go.Proofs.Ytodccjbgomimjaa
open Go.Ab
abbrev F_main_main : FuncId := 0
abbrev F_gosem_cut : FuncId := 1
abbrev F_gosem_cut_init : FuncId := 2
abbrev F_precentorlaw15_ClockTells : FuncId := 3
abbrev F_precentorlaw15_ClockValue : FuncId := 4
abbrev F_precentorlaw15_ClockCounts : FuncId := 5
abbrev F_precentorhand_Pick : FuncId := 6
abbrev F_clock_New : FuncId := 7
abbrev F_precentorref9_NewClock : FuncId := 8
abbrev F_precentorlaw15_stamps : FuncId := 9
abbrev F_clock_Clock_Due : FuncId := 10
abbrev F_precentorref9_Clock_Due : FuncId := 11
abbrev F_clock_Clock_Take : FuncId := 12
abbrev F_precentorref9_Clock_Take : FuncId := 13
abbrev F_clock_Clock_Next : FuncId := 14
abbrev F_precentorref9_Clock_Next : FuncId := 15
abbrev F_clock_Clock_Own : FuncId := 16
abbrev F_precentorlaw15_known : FuncId := 17
abbrev F_precentorhand_Feed_Stamps : FuncId := 18
abbrev F_precentorhand_Feed_Next : FuncId := 19
abbrev F_precentorref9_Put : FuncId := 20
abbrev F_clock_Clock_find : FuncId := 21
abbrev F_precentorref9_In : FuncId := 22
abbrev F_precentorlaw15_ClockKnown : FuncId := 23
abbrev F_runtime_boundsError_Error : FuncId := 24
abbrev F_runtime_boundsError_RuntimeError : FuncId := 25
abbrev F_runtime_errorString_Error : FuncId := 26
abbrev F_runtime_errorString_RuntimeError : FuncId := 27
abbrev F_runtime_plainError_Error : FuncId := 28
abbrev F_runtime_plainError_RuntimeError : FuncId := 29
abbrev F_runtime_errorAddressString_Error : FuncId := 30
abbrev F_runtime_errorAddressString_RuntimeError : FuncId := 31
abbrev F_runtime_TypeAssertionError_Error : FuncId := 32
abbrev F_runtime_TypeAssertionError_RuntimeError : FuncId := 33
abbrev F_runtime_PanicNilError_Error : FuncId := 34
abbrev F_runtime_PanicNilError_RuntimeError : FuncId := 35
abbrev F_internal_abi_Type_Align : FuncId := 36
abbrev F_internal_runtime_maps_unhashableTypeError_Error : FuncId := 37
abbrev F_internal_runtime_maps_unhashableTypeError_RuntimeError : FuncId := 38
abbrev F_precentorhand_Feed_Float : FuncId := 39
abbrev F_internal_abi_Kind_String : FuncId := 40
/-- Is it a package's own question whether it answers at all? -/
def isKnown (f : FuncId) : Bool := [17].contains f
def OnlyKnown (X : XTab) : Prop := ∀ f a, isKnown f = false → X f a = none

end Go.Proofs.Ytodccjbgomimjaa
