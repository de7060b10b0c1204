/-
  The numbers of the seat's functions by name (printed by a program of ours, gen.lean).
-/
import Derived.Test.YtepdlgcoehpnbaaABV
import Derived.Test.YtepdlgcoehpnbaaChecked
set_option linter.unusedVariables false
namespace Go.Proofs.Ytepdlgcoehpnbaa
open Go.Ab
abbrev F_main_main : FuncId := 0
abbrev F_gosem_cut : FuncId := 1
abbrev F_gosem_cut_init : FuncId := 2
abbrev F_precentorlaw1_TrapKnown : FuncId := 3
abbrev F_precentorlaw1_TrapPlays : FuncId := 4
abbrev F_precentorlaw1_TrapPasses : FuncId := 5
abbrev F_precentorlaw1_TrapCounts : FuncId := 6
abbrev F_trap_Run : FuncId := 7
abbrev F_precentorlaw1_TrapKnown_1 : FuncId := 8
abbrev F_trap_Stop : FuncId := 9
abbrev F_trap_Each : FuncId := 10
abbrev F_precentorlaw1_TrapKnown_2 : FuncId := 11
abbrev F_precentorlaw1_TrapKnown_3 : FuncId := 12
abbrev F_precentorlaw1_TrapKnown_4 : FuncId := 13
abbrev F_precentorlaw1_TrapKnown_5 : FuncId := 14
abbrev F_trap_Need : FuncId := 15
abbrev F_precentorlaw1_TrapKnown_6 : FuncId := 16
abbrev F_precentorlaw1_TrapKnown_7 : FuncId := 17
abbrev F_precentorlaw1_TrapKnown_7_1 : FuncId := 18
abbrev F_precentorlaw1_thrown : FuncId := 19
abbrev F_precentorlaw1_TrapPlays_1 : FuncId := 20
abbrev F_precentorlaw1_player_run : FuncId := 21
abbrev F_precentorlaw1_player_want : FuncId := 22
abbrev F_precentorlaw1_known : FuncId := 23
abbrev F_precentorhand_Pick : FuncId := 24
abbrev F_precentorlaw1_TrapPasses_1 : FuncId := 25
abbrev F_precentorlaw1_TrapPasses_1_1 : FuncId := 26
abbrev F_precentorlaw1_TrapPasses_1_2 : FuncId := 27
abbrev F_precentorlaw1_TrapPasses_2 : FuncId := 28
abbrev F_precentorlaw1_TrapPasses_2_1 : FuncId := 29
abbrev F_precentorlaw1_TrapPasses_2_2 : FuncId := 30
abbrev F_precentorlaw1_TrapCounts_1 : FuncId := 31
abbrev F_trap_Run_1 : FuncId := 32
abbrev F_precentorlaw1_thrown_1 : FuncId := 33
abbrev F_precentorlaw1_player_more : FuncId := 34
abbrev F_precentorlaw1_player_step : FuncId := 35
abbrev F_precentorlaw1_player_run_1 : FuncId := 36
abbrev F_precentorlaw1_player_run_2 : FuncId := 37
abbrev F_precentorlaw1_player_run_3 : FuncId := 38
abbrev F_precentorlaw1_player_run_4 : FuncId := 39
abbrev F_runtime_boundsError_Error : FuncId := 40
abbrev F_runtime_boundsError_RuntimeError : FuncId := 41
abbrev F_runtime_errorString_Error : FuncId := 42
abbrev F_runtime_errorString_RuntimeError : FuncId := 43
abbrev F_runtime_plainError_Error : FuncId := 44
abbrev F_runtime_plainError_RuntimeError : FuncId := 45
abbrev F_runtime_errorAddressString_Error : FuncId := 46
abbrev F_runtime_errorAddressString_RuntimeError : FuncId := 47
abbrev F_runtime_TypeAssertionError_Error : FuncId := 48
abbrev F_runtime_TypeAssertionError_RuntimeError : FuncId := 49
abbrev F_runtime_PanicNilError_Error : FuncId := 50
abbrev F_runtime_PanicNilError_RuntimeError : FuncId := 51
abbrev F_internal_abi_Type_Align : FuncId := 52
abbrev F_internal_runtime_maps_unhashableTypeError_Error : FuncId := 53
abbrev F_internal_runtime_maps_unhashableTypeError_RuntimeError : FuncId := 54
abbrev F_internal_abi_Kind_String : FuncId := 55
/-- Is it a package's own question whether it answers at all? -/
def isKnown (f : FuncId) : Bool := [23].contains f
def OnlyKnown (X : XTab) : Prop := ∀ f a, isKnown f = false → X f a = none

end Go.Proofs.Ytepdlgcoehpnbaa
