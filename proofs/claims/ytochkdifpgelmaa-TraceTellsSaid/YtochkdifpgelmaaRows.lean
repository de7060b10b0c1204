/-
  No cell of these rows narrows 'for every input' (looked for: loops, veiled, ifaces, maps, wideKeys, modest, calm, conditions, laid).
  DERIVED. THE GIVEN ROWS OF THIS SEAT. 5 by the template 'for every input the law returns true; each argument reads behind the call as it read before'; 0 by the template 'total and deterministic' (their statements: YtochkdifpgelmaaTotals.lean).
  GIVEN WITH THE SEED: the statements are not yours to turn. If you find one false, say at which input.
  Laid BY PROGRAM, IN A SANDBOX (cutbox-rows.mjs): the forced cells as the released guide's own fill.sh prints them over the translation 069fbd9590933a3e… (all of the seat's roots in one cut). By AI agents, Wed Nov 11 2026. No macro, syntax, notation, axiom, sorry.
-/
import Derived.Test.YtochkdifpgelmaaChecked
import GoSem.Claim
import GoSem.ClaimJoined
import GoSem.ClaimMapViews
import Derived.JoinedTies
import Derived.KernelRfl
namespace Go.Proofs.Ytochkdifpgelmaa
/- THE CELL 'sum', in the pinned program and in every row, IS THE sha256 OF THE DUMP (.gsa) THAT YtochkdifpgelmaaProg.lean LOADS. Nothing in Lean hashes anything: it is a label: what it is worth is what the hold of that sum in a sandbox is worth. -/
noncomputable def Try.pinned : Pinned := { name := "ytochkdifpgelmaa", sum := "069fbd9590933a3ee29d55bd1e7c9a352a05b0a204cc46e86aa64a2baf75d81c", checked := Try.checked }
namespace Rows
def none {H : Type} : Left H := { results := [], args := [] }

/-- 'precentorlaw25.TraceKnown': WHATEVER THE INPUT: true; the input reads as it did. -/
def traceKnownSpec : ChangeSpec := { name := "traceKnown", fn := fun _ => fun
  | [] => { results := [.lit (.bool true)], args := [] }
  | _ => none }
def traceKnownRow : OpenClaim := { program := "ytochkdifpgelmaa", sum := "069fbd9590933a3ee29d55bd1e7c9a352a05b0a204cc46e86aa64a2baf75d81c", func := "precentor/precentorlaw25.TraceKnown", spec := "traceKnown", plainKeys := false, apart := false }
def TraceKnownSaid : Prop := traceKnownRow.holds Try.pinned (OpenSpec.ofChange traceKnownSpec)

/-- ITS FALSE NEIGHBOUR: 'it returns false'. Refute it at one input. -/
def traceKnownWrong : ChangeSpec := { name := "traceKnown", fn := fun _ => fun
  | [] => { results := [.lit (.bool false)], args := [] }
  | _ => none }
def TraceKnownWrongFalsely : Prop := traceKnownRow.holds Try.pinned (OpenSpec.ofChange traceKnownWrong)

/-- 'precentorlaw25.TraceTells': WHATEVER THE INPUT: true; the input reads as it did. -/
def traceTellsSpec : ChangeSpec := { name := "traceTells", fn := fun _ => fun
  | [d1, d2, d3, d4, d5] => { results := [.lit (.bool true)], args := [d1, d2, d3, d4, d5] }
  | _ => none }
def traceTellsRow : OpenClaim := { program := "ytochkdifpgelmaa", sum := "069fbd9590933a3ee29d55bd1e7c9a352a05b0a204cc46e86aa64a2baf75d81c", func := "precentor/precentorlaw25.TraceTells", spec := "traceTells", plainKeys := false, apart := false }
def TraceTellsSaid : Prop := traceTellsRow.holds Try.pinned (OpenSpec.ofChange traceTellsSpec)

/-- ITS FALSE NEIGHBOUR: 'it returns false'. Refute it at one input. -/
def traceTellsWrong : ChangeSpec := { name := "traceTells", fn := fun _ => fun
  | [d1, d2, d3, d4, d5] => { results := [.lit (.bool false)], args := [d1, d2, d3, d4, d5] }
  | _ => none }
def TraceTellsWrongFalsely : Prop := traceTellsRow.holds Try.pinned (OpenSpec.ofChange traceTellsWrong)

/-- 'precentorlaw25.TraceLine': WHATEVER THE INPUT: true; the input reads as it did. -/
def traceLineSpec : ChangeSpec := { name := "traceLine", fn := fun _ => fun
  | [d] => { results := [.lit (.bool true)], args := [d] }
  | _ => none }
def traceLineRow : OpenClaim := { program := "ytochkdifpgelmaa", sum := "069fbd9590933a3ee29d55bd1e7c9a352a05b0a204cc46e86aa64a2baf75d81c", func := "precentor/precentorlaw25.TraceLine", spec := "traceLine", plainKeys := false, apart := false }
def TraceLineSaid : Prop := traceLineRow.holds Try.pinned (OpenSpec.ofChange traceLineSpec)

/-- ITS FALSE NEIGHBOUR: 'it returns false'. Refute it at one input. -/
def traceLineWrong : ChangeSpec := { name := "traceLine", fn := fun _ => fun
  | [d] => { results := [.lit (.bool false)], args := [d] }
  | _ => none }
def TraceLineWrongFalsely : Prop := traceLineRow.holds Try.pinned (OpenSpec.ofChange traceLineWrong)

/-- 'precentorlaw25.TraceCauses': WHATEVER THE INPUT: true; the input reads as it did. -/
def traceCausesSpec : ChangeSpec := { name := "traceCauses", fn := fun _ => fun
  | [d] => { results := [.lit (.bool true)], args := [d] }
  | _ => none }
def traceCausesRow : OpenClaim := { program := "ytochkdifpgelmaa", sum := "069fbd9590933a3ee29d55bd1e7c9a352a05b0a204cc46e86aa64a2baf75d81c", func := "precentor/precentorlaw25.TraceCauses", spec := "traceCauses", plainKeys := false, apart := false }
def TraceCausesSaid : Prop := traceCausesRow.holds Try.pinned (OpenSpec.ofChange traceCausesSpec)

/-- ITS FALSE NEIGHBOUR: 'it returns false'. Refute it at one input. -/
def traceCausesWrong : ChangeSpec := { name := "traceCauses", fn := fun _ => fun
  | [d] => { results := [.lit (.bool false)], args := [d] }
  | _ => none }
def TraceCausesWrongFalsely : Prop := traceCausesRow.holds Try.pinned (OpenSpec.ofChange traceCausesWrong)

/-- 'precentorlaw25.TraceCuts': WHATEVER THE INPUT: true; the input reads as it did. -/
def traceCutsSpec : ChangeSpec := { name := "traceCuts", fn := fun _ => fun
  | [d1, d2, d3] => { results := [.lit (.bool true)], args := [d1, d2, d3] }
  | _ => none }
def traceCutsRow : OpenClaim := { program := "ytochkdifpgelmaa", sum := "069fbd9590933a3ee29d55bd1e7c9a352a05b0a204cc46e86aa64a2baf75d81c", func := "precentor/precentorlaw25.TraceCuts", spec := "traceCuts", plainKeys := false, apart := false }
def TraceCutsSaid : Prop := traceCutsRow.holds Try.pinned (OpenSpec.ofChange traceCutsSpec)

/-- ITS FALSE NEIGHBOUR: 'it returns false'. Refute it at one input. -/
def traceCutsWrong : ChangeSpec := { name := "traceCuts", fn := fun _ => fun
  | [d1, d2, d3] => { results := [.lit (.bool false)], args := [d1, d2, d3] }
  | _ => none }
def TraceCutsWrongFalsely : Prop := traceCutsRow.holds Try.pinned (OpenSpec.ofChange traceCutsWrong)

/- THE SECOND FORM. 'bulk': how many values and letters a reading holds, each counted each time it is reached (what is shared counts as often as it is met; a slice's spare places count too). A statement '..UptoSaid' is the law's where the arguments, and the package variables that the reading takes, are together of bulk at most 1048576: NARROWER than '..Said'. Prove '..Said' where nothing that the law and all that it calls make is longer than what came in: it says more and counts as full. Else prove '..UptoSaid'. A law counts once. -/
mutual
def uptoBulk {H : Type} : DataW H → Nat
  | .lit (.string bytes) => bytes.length + 1
  | .lit _ => 1
  | .nil => 1
  | .ptr d => uptoBulk d + 1
  | .slice elems spare => uptoBulkAll elems + uptoBulkAll spare + 1
  | .agg parts => uptoBulkAll parts + 1
  | .iface _ d => uptoBulk d + 1
  | .map entries => uptoBulkEntries entries + 1
  | .held _ => 1
def uptoBulkAll {H : Type} : List (DataW H) → Nat
  | [] => 0
  | d :: r => uptoBulk d + uptoBulkAll r
def uptoBulkEntries {H : Type} : List (Lit × DataW H) → Nat
  | [] => 0
  | x :: r => uptoBulkEntry x + uptoBulkEntries r
def uptoBulkEntry {H : Type} : Lit × DataW H → Nat
  | (.string bytes, d) => bytes.length + uptoBulk d + 1
  | (_, d) => uptoBulk d + 1
 end
def uptoSmall : (H : Type) → List (DataW H) → Bool := fun _ ds => decide (uptoBulkAll ds ≤ 1048576)
def OpenSpec.upto (s : _root_.Go.ChangeSpec) : _root_.Go.OpenSpec := { _root_.Go.OpenSpec.ofChange s with cond := some uptoSmall }

/-- 'precentorlaw25.TraceKnown', WHERE WHAT IT READS IS OF BULK AT MOST 1048576: true; the input reads as it did. -/
def traceKnownUptoRow : OpenClaim := { program := "ytochkdifpgelmaa", sum := "069fbd9590933a3ee29d55bd1e7c9a352a05b0a204cc46e86aa64a2baf75d81c", func := "precentor/precentorlaw25.TraceKnown", spec := "traceKnown", plainKeys := false, apart := false, narrowed := true }
def TraceKnownUptoSaid : Prop := traceKnownUptoRow.holds Try.pinned (OpenSpec.upto traceKnownSpec)

/-- 'precentorlaw25.TraceTells', WHERE WHAT IT READS IS OF BULK AT MOST 1048576: true; the input reads as it did. -/
def traceTellsUptoRow : OpenClaim := { program := "ytochkdifpgelmaa", sum := "069fbd9590933a3ee29d55bd1e7c9a352a05b0a204cc46e86aa64a2baf75d81c", func := "precentor/precentorlaw25.TraceTells", spec := "traceTells", plainKeys := false, apart := false, narrowed := true }
def TraceTellsUptoSaid : Prop := traceTellsUptoRow.holds Try.pinned (OpenSpec.upto traceTellsSpec)

/-- 'precentorlaw25.TraceLine', WHERE WHAT IT READS IS OF BULK AT MOST 1048576: true; the input reads as it did. -/
def traceLineUptoRow : OpenClaim := { program := "ytochkdifpgelmaa", sum := "069fbd9590933a3ee29d55bd1e7c9a352a05b0a204cc46e86aa64a2baf75d81c", func := "precentor/precentorlaw25.TraceLine", spec := "traceLine", plainKeys := false, apart := false, narrowed := true }
def TraceLineUptoSaid : Prop := traceLineUptoRow.holds Try.pinned (OpenSpec.upto traceLineSpec)

/-- 'precentorlaw25.TraceCauses', WHERE WHAT IT READS IS OF BULK AT MOST 1048576: true; the input reads as it did. -/
def traceCausesUptoRow : OpenClaim := { program := "ytochkdifpgelmaa", sum := "069fbd9590933a3ee29d55bd1e7c9a352a05b0a204cc46e86aa64a2baf75d81c", func := "precentor/precentorlaw25.TraceCauses", spec := "traceCauses", plainKeys := false, apart := false, narrowed := true }
def TraceCausesUptoSaid : Prop := traceCausesUptoRow.holds Try.pinned (OpenSpec.upto traceCausesSpec)

/-- 'precentorlaw25.TraceCuts', WHERE WHAT IT READS IS OF BULK AT MOST 1048576: true; the input reads as it did. -/
def traceCutsUptoRow : OpenClaim := { program := "ytochkdifpgelmaa", sum := "069fbd9590933a3ee29d55bd1e7c9a352a05b0a204cc46e86aa64a2baf75d81c", func := "precentor/precentorlaw25.TraceCuts", spec := "traceCuts", plainKeys := false, apart := false, narrowed := true }
def TraceCutsUptoSaid : Prop := traceCutsUptoRow.holds Try.pinned (OpenSpec.upto traceCutsSpec)

end Rows
end Go.Proofs.Ytochkdifpgelmaa
