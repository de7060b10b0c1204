/-
  No cell of these rows narrows 'for every input' (looked for: loops, veiled, ifaces, maps, wideKeys, modest, calm, conditions, laid).
  DERIVED. THE GIVEN ROWS OF THIS SEAT. 8 by the template 'for every input the law returns true; each argument reads behind the call as it read before'; 0 by the template 'total and deterministic' (their statements: YtnldminoihfjgaaTotals.lean).
  GIVEN WITH THE SEED: the statements are not yours to turn. If you find one false, say at which input.
  Laid BY PROGRAM, IN A SANDBOX (cutbox-rows.mjs): the forced cells as the released guide's own fill.sh prints them over the translation 8e09371e49e23f39… (all of the seat's roots in one cut). By AI agents, Wed Nov 11 2026. No macro, syntax, notation, axiom, sorry.
-/
import Derived.Test.YtnldminoihfjgaaChecked
import GoSem.Claim
import GoSem.ClaimJoined
import GoSem.ClaimMapViews
import Derived.JoinedTies
import Derived.KernelRfl
namespace Go.Proofs.Ytnldminoihfjgaa
/- THE CELL 'sum', in the pinned program and in every row, IS THE sha256 OF THE DUMP (.gsa) THAT YtnldminoihfjgaaProg.lean LOADS. Nothing in Lean hashes anything: it is a label: what it is worth is what the hold of that sum in a sandbox is worth. -/
noncomputable def Try.pinned : Pinned := { name := "ytnldminoihfjgaa", sum := "8e09371e49e23f39d394f3097a3dda74914dfeb0e65a5da390b39136ceb8324a", checked := Try.checked }
namespace Rows
def none {H : Type} : Left H := { results := [], args := [] }

/-- 'precentorlaw14.SeqKnown': WHATEVER THE INPUT: true; the input reads as it did. -/
def seqKnownSpec : ChangeSpec := { name := "seqKnown", fn := fun _ => fun
  | [] => { results := [.lit (.bool true)], args := [] }
  | _ => none }
def seqKnownRow : OpenClaim := { program := "ytnldminoihfjgaa", sum := "8e09371e49e23f39d394f3097a3dda74914dfeb0e65a5da390b39136ceb8324a", func := "precentor/precentorlaw14.SeqKnown", spec := "seqKnown", apart := false }
def SeqKnownSaid : Prop := seqKnownRow.holds Try.pinned (OpenSpec.ofChange seqKnownSpec)

/-- ITS FALSE NEIGHBOUR: 'it returns false'. Refute it at one input. -/
def seqKnownWrong : ChangeSpec := { name := "seqKnown", fn := fun _ => fun
  | [] => { results := [.lit (.bool false)], args := [] }
  | _ => none }
def SeqKnownWrongFalsely : Prop := seqKnownRow.holds Try.pinned (OpenSpec.ofChange seqKnownWrong)

/-- 'precentorlaw14.SeqOwn': WHATEVER THE INPUT: true; the input reads as it did. -/
def seqOwnSpec : ChangeSpec := { name := "seqOwn", fn := fun _ => fun
  | [d] => { results := [.lit (.bool true)], args := [d] }
  | _ => none }
def seqOwnRow : OpenClaim := { program := "ytnldminoihfjgaa", sum := "8e09371e49e23f39d394f3097a3dda74914dfeb0e65a5da390b39136ceb8324a", func := "precentor/precentorlaw14.SeqOwn", spec := "seqOwn", apart := false }
def SeqOwnSaid : Prop := seqOwnRow.holds Try.pinned (OpenSpec.ofChange seqOwnSpec)

/-- ITS FALSE NEIGHBOUR: 'it returns false'. Refute it at one input. -/
def seqOwnWrong : ChangeSpec := { name := "seqOwn", fn := fun _ => fun
  | [d] => { results := [.lit (.bool false)], args := [d] }
  | _ => none }
def SeqOwnWrongFalsely : Prop := seqOwnRow.holds Try.pinned (OpenSpec.ofChange seqOwnWrong)

/-- 'precentorlaw14.SeqTells': WHATEVER THE INPUT: true; the input reads as it did. -/
def seqTellsSpec : ChangeSpec := { name := "seqTells", fn := fun _ => fun
  | [d1, d2, d3] => { results := [.lit (.bool true)], args := [d1, d2, d3] }
  | _ => none }
def seqTellsRow : OpenClaim := { program := "ytnldminoihfjgaa", sum := "8e09371e49e23f39d394f3097a3dda74914dfeb0e65a5da390b39136ceb8324a", func := "precentor/precentorlaw14.SeqTells", spec := "seqTells", inPlace := ["math.Float64bits", "math.Float64frombits", "math.archTrunc"], apart := false }
def SeqTellsSaid : Prop := seqTellsRow.holds Try.pinned (OpenSpec.ofChange seqTellsSpec)

/-- ITS FALSE NEIGHBOUR: 'it returns false'. Refute it at one input. -/
def seqTellsWrong : ChangeSpec := { name := "seqTells", fn := fun _ => fun
  | [d1, d2, d3] => { results := [.lit (.bool false)], args := [d1, d2, d3] }
  | _ => none }
def SeqTellsWrongFalsely : Prop := seqTellsRow.holds Try.pinned (OpenSpec.ofChange seqTellsWrong)

/-- 'precentorlaw14.SeqNumbers': WHATEVER THE INPUT: true; the input reads as it did. -/
def seqNumbersSpec : ChangeSpec := { name := "seqNumbers", fn := fun _ => fun
  | [d1, d2] => { results := [.lit (.bool true)], args := [d1, d2] }
  | _ => none }
def seqNumbersRow : OpenClaim := { program := "ytnldminoihfjgaa", sum := "8e09371e49e23f39d394f3097a3dda74914dfeb0e65a5da390b39136ceb8324a", func := "precentor/precentorlaw14.SeqNumbers", spec := "seqNumbers", inPlace := ["math.Float64bits", "math.Float64frombits", "math.archTrunc"], apart := false }
def SeqNumbersSaid : Prop := seqNumbersRow.holds Try.pinned (OpenSpec.ofChange seqNumbersSpec)

/-- ITS FALSE NEIGHBOUR: 'it returns false'. Refute it at one input. -/
def seqNumbersWrong : ChangeSpec := { name := "seqNumbers", fn := fun _ => fun
  | [d1, d2] => { results := [.lit (.bool false)], args := [d1, d2] }
  | _ => none }
def SeqNumbersWrongFalsely : Prop := seqNumbersRow.holds Try.pinned (OpenSpec.ofChange seqNumbersWrong)

/-- 'precentorlaw16.HoldKnown': WHATEVER THE INPUT: true; the input reads as it did. -/
def holdKnownSpec : ChangeSpec := { name := "holdKnown", fn := fun _ => fun
  | [] => { results := [.lit (.bool true)], args := [] }
  | _ => none }
def holdKnownRow : OpenClaim := { program := "ytnldminoihfjgaa", sum := "8e09371e49e23f39d394f3097a3dda74914dfeb0e65a5da390b39136ceb8324a", func := "precentor/precentorlaw16.HoldKnown", spec := "holdKnown", apart := false }
def HoldKnownSaid : Prop := holdKnownRow.holds Try.pinned (OpenSpec.ofChange holdKnownSpec)

/-- ITS FALSE NEIGHBOUR: 'it returns false'. Refute it at one input. -/
def holdKnownWrong : ChangeSpec := { name := "holdKnown", fn := fun _ => fun
  | [] => { results := [.lit (.bool false)], args := [] }
  | _ => none }
def HoldKnownWrongFalsely : Prop := holdKnownRow.holds Try.pinned (OpenSpec.ofChange holdKnownWrong)

/-- 'precentorlaw16.HoldOrder': WHATEVER THE INPUT: true; the input reads as it did. -/
def holdOrderSpec : ChangeSpec := { name := "holdOrder", fn := fun _ => fun
  | [d1, d2] => { results := [.lit (.bool true)], args := [d1, d2] }
  | _ => none }
def holdOrderRow : OpenClaim := { program := "ytnldminoihfjgaa", sum := "8e09371e49e23f39d394f3097a3dda74914dfeb0e65a5da390b39136ceb8324a", func := "precentor/precentorlaw16.HoldOrder", spec := "holdOrder", apart := false }
def HoldOrderSaid : Prop := holdOrderRow.holds Try.pinned (OpenSpec.ofChange holdOrderSpec)

/-- ITS FALSE NEIGHBOUR: 'it returns false'. Refute it at one input. -/
def holdOrderWrong : ChangeSpec := { name := "holdOrder", fn := fun _ => fun
  | [d1, d2] => { results := [.lit (.bool false)], args := [d1, d2] }
  | _ => none }
def HoldOrderWrongFalsely : Prop := holdOrderRow.holds Try.pinned (OpenSpec.ofChange holdOrderWrong)

/-- 'precentorlaw16.HoldKeeps': WHATEVER THE INPUT: true; the input reads as it did. -/
def holdKeepsSpec : ChangeSpec := { name := "holdKeeps", fn := fun _ => fun
  | [d1, d2] => { results := [.lit (.bool true)], args := [d1, d2] }
  | _ => none }
def holdKeepsRow : OpenClaim := { program := "ytnldminoihfjgaa", sum := "8e09371e49e23f39d394f3097a3dda74914dfeb0e65a5da390b39136ceb8324a", func := "precentor/precentorlaw16.HoldKeeps", spec := "holdKeeps", inPlace := ["math.Float64bits", "math.Float64frombits"], apart := false }
def HoldKeepsSaid : Prop := holdKeepsRow.holds Try.pinned (OpenSpec.ofChange holdKeepsSpec)

/-- ITS FALSE NEIGHBOUR: 'it returns false'. Refute it at one input. -/
def holdKeepsWrong : ChangeSpec := { name := "holdKeeps", fn := fun _ => fun
  | [d1, d2] => { results := [.lit (.bool false)], args := [d1, d2] }
  | _ => none }
def HoldKeepsWrongFalsely : Prop := holdKeepsRow.holds Try.pinned (OpenSpec.ofChange holdKeepsWrong)

/-- 'precentorlaw16.HoldTells': WHATEVER THE INPUT: true; the input reads as it did. -/
def holdTellsSpec : ChangeSpec := { name := "holdTells", fn := fun _ => fun
  | [d1, d2, d3] => { results := [.lit (.bool true)], args := [d1, d2, d3] }
  | _ => none }
def holdTellsRow : OpenClaim := { program := "ytnldminoihfjgaa", sum := "8e09371e49e23f39d394f3097a3dda74914dfeb0e65a5da390b39136ceb8324a", func := "precentor/precentorlaw16.HoldTells", spec := "holdTells", inPlace := ["math.Float64bits", "math.Float64frombits"], apart := false }
def HoldTellsSaid : Prop := holdTellsRow.holds Try.pinned (OpenSpec.ofChange holdTellsSpec)

/-- ITS FALSE NEIGHBOUR: 'it returns false'. Refute it at one input. -/
def holdTellsWrong : ChangeSpec := { name := "holdTells", fn := fun _ => fun
  | [d1, d2, d3] => { results := [.lit (.bool false)], args := [d1, d2, d3] }
  | _ => none }
def HoldTellsWrongFalsely : Prop := holdTellsRow.holds Try.pinned (OpenSpec.ofChange holdTellsWrong)

/- THE SECOND FORM. 'bulk': how many values and letters a reading holds, each counted each time it is reached (what is shared counts as often as it is met; a slice's spare places count too). A statement '..UptoSaid' is the law's where the arguments, and the package variables that the reading takes, are together of bulk at most 1048576: NARROWER than '..Said'. Prove '..Said' where nothing that the law and all that it calls make is longer than what came in: it says more and counts as full. Else prove '..UptoSaid'. A law counts once. -/
mutual
def uptoBulk {H : Type} : DataW H → Nat
  | .lit (.string bytes) => bytes.length + 1
  | .lit _ => 1
  | .nil => 1
  | .ptr d => uptoBulk d + 1
  | .slice elems spare => uptoBulkAll elems + uptoBulkAll spare + 1
  | .agg parts => uptoBulkAll parts + 1
  | .iface _ d => uptoBulk d + 1
  | .map entries => uptoBulkEntries entries + 1
  | .held _ => 1
def uptoBulkAll {H : Type} : List (DataW H) → Nat
  | [] => 0
  | d :: r => uptoBulk d + uptoBulkAll r
def uptoBulkEntries {H : Type} : List (Lit × DataW H) → Nat
  | [] => 0
  | x :: r => uptoBulkEntry x + uptoBulkEntries r
def uptoBulkEntry {H : Type} : Lit × DataW H → Nat
  | (.string bytes, d) => bytes.length + uptoBulk d + 1
  | (_, d) => uptoBulk d + 1
 end
def uptoSmall : (H : Type) → List (DataW H) → Bool := fun _ ds => decide (uptoBulkAll ds ≤ 1048576)
def OpenSpec.upto (s : _root_.Go.ChangeSpec) : _root_.Go.OpenSpec := { _root_.Go.OpenSpec.ofChange s with cond := some uptoSmall }

/-- 'precentorlaw14.SeqKnown', WHERE WHAT IT READS IS OF BULK AT MOST 1048576: true; the input reads as it did. -/
def seqKnownUptoRow : OpenClaim := { program := "ytnldminoihfjgaa", sum := "8e09371e49e23f39d394f3097a3dda74914dfeb0e65a5da390b39136ceb8324a", func := "precentor/precentorlaw14.SeqKnown", spec := "seqKnown", apart := false, narrowed := true }
def SeqKnownUptoSaid : Prop := seqKnownUptoRow.holds Try.pinned (OpenSpec.upto seqKnownSpec)

/-- 'precentorlaw14.SeqOwn', WHERE WHAT IT READS IS OF BULK AT MOST 1048576: true; the input reads as it did. -/
def seqOwnUptoRow : OpenClaim := { program := "ytnldminoihfjgaa", sum := "8e09371e49e23f39d394f3097a3dda74914dfeb0e65a5da390b39136ceb8324a", func := "precentor/precentorlaw14.SeqOwn", spec := "seqOwn", apart := false, narrowed := true }
def SeqOwnUptoSaid : Prop := seqOwnUptoRow.holds Try.pinned (OpenSpec.upto seqOwnSpec)

/-- 'precentorlaw14.SeqTells', WHERE WHAT IT READS IS OF BULK AT MOST 1048576: true; the input reads as it did. -/
def seqTellsUptoRow : OpenClaim := { program := "ytnldminoihfjgaa", sum := "8e09371e49e23f39d394f3097a3dda74914dfeb0e65a5da390b39136ceb8324a", func := "precentor/precentorlaw14.SeqTells", spec := "seqTells", inPlace := ["math.Float64bits", "math.Float64frombits", "math.archTrunc"], apart := false, narrowed := true }
def SeqTellsUptoSaid : Prop := seqTellsUptoRow.holds Try.pinned (OpenSpec.upto seqTellsSpec)

/-- 'precentorlaw14.SeqNumbers', WHERE WHAT IT READS IS OF BULK AT MOST 1048576: true; the input reads as it did. -/
def seqNumbersUptoRow : OpenClaim := { program := "ytnldminoihfjgaa", sum := "8e09371e49e23f39d394f3097a3dda74914dfeb0e65a5da390b39136ceb8324a", func := "precentor/precentorlaw14.SeqNumbers", spec := "seqNumbers", inPlace := ["math.Float64bits", "math.Float64frombits", "math.archTrunc"], apart := false, narrowed := true }
def SeqNumbersUptoSaid : Prop := seqNumbersUptoRow.holds Try.pinned (OpenSpec.upto seqNumbersSpec)

/-- 'precentorlaw16.HoldKnown', WHERE WHAT IT READS IS OF BULK AT MOST 1048576: true; the input reads as it did. -/
def holdKnownUptoRow : OpenClaim := { program := "ytnldminoihfjgaa", sum := "8e09371e49e23f39d394f3097a3dda74914dfeb0e65a5da390b39136ceb8324a", func := "precentor/precentorlaw16.HoldKnown", spec := "holdKnown", apart := false, narrowed := true }
def HoldKnownUptoSaid : Prop := holdKnownUptoRow.holds Try.pinned (OpenSpec.upto holdKnownSpec)

/-- 'precentorlaw16.HoldOrder', WHERE WHAT IT READS IS OF BULK AT MOST 1048576: true; the input reads as it did. -/
def holdOrderUptoRow : OpenClaim := { program := "ytnldminoihfjgaa", sum := "8e09371e49e23f39d394f3097a3dda74914dfeb0e65a5da390b39136ceb8324a", func := "precentor/precentorlaw16.HoldOrder", spec := "holdOrder", apart := false, narrowed := true }
def HoldOrderUptoSaid : Prop := holdOrderUptoRow.holds Try.pinned (OpenSpec.upto holdOrderSpec)

/-- 'precentorlaw16.HoldKeeps', WHERE WHAT IT READS IS OF BULK AT MOST 1048576: true; the input reads as it did. -/
def holdKeepsUptoRow : OpenClaim := { program := "ytnldminoihfjgaa", sum := "8e09371e49e23f39d394f3097a3dda74914dfeb0e65a5da390b39136ceb8324a", func := "precentor/precentorlaw16.HoldKeeps", spec := "holdKeeps", inPlace := ["math.Float64bits", "math.Float64frombits"], apart := false, narrowed := true }
def HoldKeepsUptoSaid : Prop := holdKeepsUptoRow.holds Try.pinned (OpenSpec.upto holdKeepsSpec)

/-- 'precentorlaw16.HoldTells', WHERE WHAT IT READS IS OF BULK AT MOST 1048576: true; the input reads as it did. -/
def holdTellsUptoRow : OpenClaim := { program := "ytnldminoihfjgaa", sum := "8e09371e49e23f39d394f3097a3dda74914dfeb0e65a5da390b39136ceb8324a", func := "precentor/precentorlaw16.HoldTells", spec := "holdTells", inPlace := ["math.Float64bits", "math.Float64frombits"], apart := false, narrowed := true }
def HoldTellsUptoSaid : Prop := holdTellsUptoRow.holds Try.pinned (OpenSpec.upto holdTellsSpec)

end Rows
end Go.Proofs.Ytnldminoihfjgaa
