/-
  No cell of these rows narrows 'for every input' (looked for: loops, veiled, ifaces, maps, wideKeys, modest, calm, conditions, laid).
  DERIVED. THE GIVEN ROWS OF THIS SEAT. 4 by the template 'for every input the law returns true; each argument reads behind the call as it read before'; 0 by the template 'total and deterministic' (their statements: YtbkfamdkdjajjaaTotals.lean).
  GIVEN WITH THE SEED: the statements are not yours to turn. If you find one false, say at which input.
  Laid BY PROGRAM, IN A SANDBOX (cutbox-rows.mjs): the forced cells as the released guide's own fill.sh prints them over the translation fa0751816e07d732… (all of the seat's roots in one cut). By AI agents, Wed Nov 11 2026. No macro, syntax, notation, axiom, sorry.
-/
import Derived.Test.YtbkfamdkdjajjaaChecked
import GoSem.Claim
import GoSem.ClaimJoined
import GoSem.ClaimMapViews
import Derived.JoinedTies
import Derived.KernelRfl
namespace Go.Proofs.Ytbkfamdkdjajjaa
/- THE CELL 'sum', in the pinned program and in every row, IS THE sha256 OF THE DUMP (.gsa) THAT YtbkfamdkdjajjaaProg.lean LOADS. Nothing in Lean hashes anything: it is a label: what it is worth is what the hold of that sum in a sandbox is worth. -/
noncomputable def Try.pinned : Pinned := { name := "ytbkfamdkdjajjaa", sum := "fa0751816e07d7324348e80b6cfa21ac477d02dd2384d44bffeccd5585138b37", checked := Try.checked }
namespace Rows
def none {H : Type} : Left H := { results := [], args := [] }

/-- 'precentorlaw14.SeqKnown': WHATEVER THE INPUT: true; the input reads as it did. -/
def seqKnownSpec : ChangeSpec := { name := "seqKnown", fn := fun _ => fun
  | [] => { results := [.lit (.bool true)], args := [] }
  | _ => none }
def seqKnownRow : OpenClaim := { program := "ytbkfamdkdjajjaa", sum := "fa0751816e07d7324348e80b6cfa21ac477d02dd2384d44bffeccd5585138b37", func := "precentor/precentorlaw14.SeqKnown", spec := "seqKnown", apart := false }
def SeqKnownSaid : Prop := seqKnownRow.holds Try.pinned (OpenSpec.ofChange seqKnownSpec)

/-- ITS FALSE NEIGHBOUR: 'it returns false'. Refute it at one input. -/
def seqKnownWrong : ChangeSpec := { name := "seqKnown", fn := fun _ => fun
  | [] => { results := [.lit (.bool false)], args := [] }
  | _ => none }
def SeqKnownWrongFalsely : Prop := seqKnownRow.holds Try.pinned (OpenSpec.ofChange seqKnownWrong)

/-- 'precentorlaw14.SeqOwn': WHATEVER THE INPUT: true; the input reads as it did. -/
def seqOwnSpec : ChangeSpec := { name := "seqOwn", fn := fun _ => fun
  | [d] => { results := [.lit (.bool true)], args := [d] }
  | _ => none }
def seqOwnRow : OpenClaim := { program := "ytbkfamdkdjajjaa", sum := "fa0751816e07d7324348e80b6cfa21ac477d02dd2384d44bffeccd5585138b37", func := "precentor/precentorlaw14.SeqOwn", spec := "seqOwn", apart := false }
def SeqOwnSaid : Prop := seqOwnRow.holds Try.pinned (OpenSpec.ofChange seqOwnSpec)

/-- ITS FALSE NEIGHBOUR: 'it returns false'. Refute it at one input. -/
def seqOwnWrong : ChangeSpec := { name := "seqOwn", fn := fun _ => fun
  | [d] => { results := [.lit (.bool false)], args := [d] }
  | _ => none }
def SeqOwnWrongFalsely : Prop := seqOwnRow.holds Try.pinned (OpenSpec.ofChange seqOwnWrong)

/-- 'precentorlaw14.SeqTells': WHATEVER THE INPUT: true; the input reads as it did. -/
def seqTellsSpec : ChangeSpec := { name := "seqTells", fn := fun _ => fun
  | [d1, d2, d3] => { results := [.lit (.bool true)], args := [d1, d2, d3] }
  | _ => none }
def seqTellsRow : OpenClaim := { program := "ytbkfamdkdjajjaa", sum := "fa0751816e07d7324348e80b6cfa21ac477d02dd2384d44bffeccd5585138b37", func := "precentor/precentorlaw14.SeqTells", spec := "seqTells", inPlace := ["math.Float64bits", "math.Float64frombits", "math.archTrunc"], apart := false }
def SeqTellsSaid : Prop := seqTellsRow.holds Try.pinned (OpenSpec.ofChange seqTellsSpec)

/-- ITS FALSE NEIGHBOUR: 'it returns false'. Refute it at one input. -/
def seqTellsWrong : ChangeSpec := { name := "seqTells", fn := fun _ => fun
  | [d1, d2, d3] => { results := [.lit (.bool false)], args := [d1, d2, d3] }
  | _ => none }
def SeqTellsWrongFalsely : Prop := seqTellsRow.holds Try.pinned (OpenSpec.ofChange seqTellsWrong)

/-- 'precentorlaw14.SeqNumbers': WHATEVER THE INPUT: true; the input reads as it did. -/
def seqNumbersSpec : ChangeSpec := { name := "seqNumbers", fn := fun _ => fun
  | [d1, d2] => { results := [.lit (.bool true)], args := [d1, d2] }
  | _ => none }
def seqNumbersRow : OpenClaim := { program := "ytbkfamdkdjajjaa", sum := "fa0751816e07d7324348e80b6cfa21ac477d02dd2384d44bffeccd5585138b37", func := "precentor/precentorlaw14.SeqNumbers", spec := "seqNumbers", inPlace := ["math.Float64bits", "math.Float64frombits", "math.archTrunc"], apart := false }
def SeqNumbersSaid : Prop := seqNumbersRow.holds Try.pinned (OpenSpec.ofChange seqNumbersSpec)

/-- ITS FALSE NEIGHBOUR: 'it returns false'. Refute it at one input. -/
def seqNumbersWrong : ChangeSpec := { name := "seqNumbers", fn := fun _ => fun
  | [d1, d2] => { results := [.lit (.bool false)], args := [d1, d2] }
  | _ => none }
def SeqNumbersWrongFalsely : Prop := seqNumbersRow.holds Try.pinned (OpenSpec.ofChange seqNumbersWrong)

/- THE SECOND FORM. 'bulk': how many values and letters a reading holds, each counted each time it is reached (what is shared counts as often as it is met; a slice's spare places count too). A statement '..UptoSaid' is the law's where the arguments, and the package variables that the reading takes, are together of bulk at most 1048576: NARROWER than '..Said'. Prove '..Said' where nothing that the law and all that it calls make is longer than what came in: it says more and counts as full. Else prove '..UptoSaid'. A law counts once. -/
mutual
def uptoBulk {H : Type} : DataW H → Nat
  | .lit (.string bytes) => bytes.length + 1
  | .lit _ => 1
  | .nil => 1
  | .ptr d => uptoBulk d + 1
  | .slice elems spare => uptoBulkAll elems + uptoBulkAll spare + 1
  | .agg parts => uptoBulkAll parts + 1
  | .iface _ d => uptoBulk d + 1
  | .map entries => uptoBulkEntries entries + 1
  | .held _ => 1
def uptoBulkAll {H : Type} : List (DataW H) → Nat
  | [] => 0
  | d :: r => uptoBulk d + uptoBulkAll r
def uptoBulkEntries {H : Type} : List (Lit × DataW H) → Nat
  | [] => 0
  | x :: r => uptoBulkEntry x + uptoBulkEntries r
def uptoBulkEntry {H : Type} : Lit × DataW H → Nat
  | (.string bytes, d) => bytes.length + uptoBulk d + 1
  | (_, d) => uptoBulk d + 1
 end
def uptoSmall : (H : Type) → List (DataW H) → Bool := fun _ ds => decide (uptoBulkAll ds ≤ 1048576)
def OpenSpec.upto (s : _root_.Go.ChangeSpec) : _root_.Go.OpenSpec := { _root_.Go.OpenSpec.ofChange s with cond := some uptoSmall }

/-- 'precentorlaw14.SeqKnown', WHERE WHAT IT READS IS OF BULK AT MOST 1048576: true; the input reads as it did. -/
def seqKnownUptoRow : OpenClaim := { program := "ytbkfamdkdjajjaa", sum := "fa0751816e07d7324348e80b6cfa21ac477d02dd2384d44bffeccd5585138b37", func := "precentor/precentorlaw14.SeqKnown", spec := "seqKnown", apart := false, narrowed := true }
def SeqKnownUptoSaid : Prop := seqKnownUptoRow.holds Try.pinned (OpenSpec.upto seqKnownSpec)

/-- 'precentorlaw14.SeqOwn', WHERE WHAT IT READS IS OF BULK AT MOST 1048576: true; the input reads as it did. -/
def seqOwnUptoRow : OpenClaim := { program := "ytbkfamdkdjajjaa", sum := "fa0751816e07d7324348e80b6cfa21ac477d02dd2384d44bffeccd5585138b37", func := "precentor/precentorlaw14.SeqOwn", spec := "seqOwn", apart := false, narrowed := true }
def SeqOwnUptoSaid : Prop := seqOwnUptoRow.holds Try.pinned (OpenSpec.upto seqOwnSpec)

/-- 'precentorlaw14.SeqTells', WHERE WHAT IT READS IS OF BULK AT MOST 1048576: true; the input reads as it did. -/
def seqTellsUptoRow : OpenClaim := { program := "ytbkfamdkdjajjaa", sum := "fa0751816e07d7324348e80b6cfa21ac477d02dd2384d44bffeccd5585138b37", func := "precentor/precentorlaw14.SeqTells", spec := "seqTells", inPlace := ["math.Float64bits", "math.Float64frombits", "math.archTrunc"], apart := false, narrowed := true }
def SeqTellsUptoSaid : Prop := seqTellsUptoRow.holds Try.pinned (OpenSpec.upto seqTellsSpec)

/-- 'precentorlaw14.SeqNumbers', WHERE WHAT IT READS IS OF BULK AT MOST 1048576: true; the input reads as it did. -/
def seqNumbersUptoRow : OpenClaim := { program := "ytbkfamdkdjajjaa", sum := "fa0751816e07d7324348e80b6cfa21ac477d02dd2384d44bffeccd5585138b37", func := "precentor/precentorlaw14.SeqNumbers", spec := "seqNumbers", inPlace := ["math.Float64bits", "math.Float64frombits", "math.archTrunc"], apart := false, narrowed := true }
def SeqNumbersUptoSaid : Prop := seqNumbersUptoRow.holds Try.pinned (OpenSpec.upto seqNumbersSpec)

end Rows
end Go.Proofs.Ytbkfamdkdjajjaa
