/-
  The numbers of the seat's functions by name (printed by a program of ours, gen.lean).
-/
import Derived.Test.YtochkdifpgelmaaABT
import Derived.Test.YtochkdifpgelmaaChecked
set_option linter.unusedVariables false
namespace Go.Proofs.Ytochkdifpgelmaa
open Go.Ab
abbrev F_main_main : FuncId := 0
abbrev F_gosem_cut : FuncId := 1
abbrev F_gosem_cut_init : FuncId := 2
abbrev F_precentorlaw25_TraceKnown : FuncId := 3
abbrev F_precentorlaw25_TraceTells : FuncId := 4
abbrev F_precentorlaw25_TraceLine : FuncId := 5
abbrev F_precentorlaw25_TraceCauses : FuncId := 6
abbrev F_precentorlaw25_TraceCuts : FuncId := 7
abbrev F_precentorlaw25_sent : FuncId := 8
abbrev F_precentorlaw25_heard : FuncId := 9
abbrev F_trace_Causes : FuncId := 10
abbrev F_trace_Line : FuncId := 11
abbrev F_trace_Agree : FuncId := 12
abbrev F_trace_Once : FuncId := 13
abbrev F_trace_Causal : FuncId := 14
abbrev F_trace_Heard : FuncId := 15
abbrev F_precentorlaw25_marks : FuncId := 16
abbrev F_precentorhand_Pick : FuncId := 17
abbrev F_precentorref23_Line : FuncId := 18
abbrev F_precentorlaw25_known : FuncId := 19
abbrev F_precentorlaw25_same : FuncId := 20
abbrev F_precentorref23_Heard : FuncId := 21
abbrev F_precentorref23_Once : FuncId := 22
abbrev F_precentorref23_Agree : FuncId := 23
abbrev F_precentorref23_Causes : FuncId := 24
abbrev F_precentorref23_Causal : FuncId := 25
abbrev F_precentorlaw25_at : FuncId := 26
abbrev F_trace_first : FuncId := 27
abbrev F_trace_id : FuncId := 28
abbrev F_trace_lay : FuncId := 29
abbrev F_trace_rows : FuncId := 30
abbrev F_trace_ahead : FuncId := 31
abbrev F_precentorref23_clients : FuncId := 32
abbrev F_precentorref23_first : FuncId := 33
abbrev F_precentorref23_put : FuncId := 34
abbrev F_precentorref23_at : FuncId := 35
abbrev F_precentorref23_id : FuncId := 36
abbrev F_precentorref23_less : FuncId := 37
abbrev F_runtime_boundsError_Error : FuncId := 38
abbrev F_runtime_boundsError_RuntimeError : FuncId := 39
abbrev F_runtime_errorString_Error : FuncId := 40
abbrev F_runtime_errorString_RuntimeError : FuncId := 41
abbrev F_runtime_plainError_Error : FuncId := 42
abbrev F_runtime_plainError_RuntimeError : FuncId := 43
abbrev F_runtime_errorAddressString_Error : FuncId := 44
abbrev F_runtime_errorAddressString_RuntimeError : FuncId := 45
abbrev F_runtime_TypeAssertionError_Error : FuncId := 46
abbrev F_runtime_TypeAssertionError_RuntimeError : FuncId := 47
abbrev F_runtime_PanicNilError_Error : FuncId := 48
abbrev F_runtime_PanicNilError_RuntimeError : FuncId := 49
abbrev F_internal_abi_Type_Align : FuncId := 50
abbrev F_internal_runtime_maps_unhashableTypeError_Error : FuncId := 51
abbrev F_internal_runtime_maps_unhashableTypeError_RuntimeError : FuncId := 52
abbrev F_internal_abi_Kind_String : FuncId := 53
/-- Is it a package's own question whether it answers at all? -/
def isKnown (f : FuncId) : Bool := [19].contains f
def OnlyKnown (X : XTab) : Prop := ∀ f a, isKnown f = false → X f a = none

end Go.Proofs.Ytochkdifpgelmaa
