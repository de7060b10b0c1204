/-
  The numbers of the seat's functions by name (printed by a program of ours, gen.lean).
-/
import Derived.Test.YtbnnkfbjnpmamaaABT
import Derived.Test.YtbnnkfbjnpmamaaChecked
set_option linter.unusedVariables false
namespace Go.Proofs.Ytbnnkfbjnpmamaa
open Go.Ab
abbrev F_main_main : FuncId := 0
abbrev F_gosem_cut : FuncId := 1
abbrev F_gosem_cut_init : FuncId := 2
abbrev F_precentorlaw14_SeqOwn : FuncId := 3
abbrev F_seq_New : FuncId := 4
abbrev F_precentorlaw14_known : FuncId := 5
abbrev F_seq_Seq_Pass : FuncId := 6
abbrev F_seq_Seq_Count : FuncId := 7
abbrev F_precentorlaw14_SeqKnown : FuncId := 8
abbrev F_seq_Seq_own : FuncId := 9
abbrev F_seq_has : FuncId := 10
abbrev F_runtime_boundsError_Error : FuncId := 11
abbrev F_runtime_boundsError_RuntimeError : FuncId := 12
abbrev F_runtime_errorString_Error : FuncId := 13
abbrev F_runtime_errorString_RuntimeError : FuncId := 14
abbrev F_runtime_plainError_Error : FuncId := 15
abbrev F_runtime_plainError_RuntimeError : FuncId := 16
abbrev F_runtime_errorAddressString_Error : FuncId := 17
abbrev F_runtime_errorAddressString_RuntimeError : FuncId := 18
abbrev F_runtime_TypeAssertionError_Error : FuncId := 19
abbrev F_runtime_TypeAssertionError_RuntimeError : FuncId := 20
abbrev F_runtime_PanicNilError_Error : FuncId := 21
abbrev F_runtime_PanicNilError_RuntimeError : FuncId := 22
abbrev F_internal_abi_Type_Align : FuncId := 23
abbrev F_internal_runtime_maps_unhashableTypeError_Error : FuncId := 24
abbrev F_internal_runtime_maps_unhashableTypeError_RuntimeError : FuncId := 25
abbrev F_internal_abi_Kind_String : FuncId := 26
/-- Is it a package's own question whether it answers at all? -/
def isKnown (f : FuncId) : Bool := [5].contains f
def OnlyKnown (X : XTab) : Prop := ∀ f a, isKnown f = false → X f a = none

end Go.Proofs.Ytbnnkfbjnpmamaa
