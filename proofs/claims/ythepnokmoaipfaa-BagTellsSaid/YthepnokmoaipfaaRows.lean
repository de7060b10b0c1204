/-
  No cell of these rows narrows 'for every input' (looked for: loops, veiled, ifaces, maps, wideKeys, modest, calm, conditions, laid).
  DERIVED. THE GIVEN ROWS OF THIS SEAT. 4 by the template 'for every input the law returns true; each argument reads behind the call as it read before'; 0 by the template 'total and deterministic' (their statements: YthepnokmoaipfaaTotals.lean).
  GIVEN WITH THE SEED: the statements are not yours to turn. If you find one false, say at which input.
  Laid BY PROGRAM, IN A SANDBOX (cutbox-rows.mjs): the forced cells as the released guide's own fill.sh prints them over the translation 67c9710f08f4e18e… (all of the seat's roots in one cut). By AI agents, Wed Nov 11 2026. No macro, syntax, notation, axiom, sorry.
-/
import Derived.Test.YthepnokmoaipfaaChecked
import GoSem.Claim
import GoSem.ClaimJoined
import GoSem.ClaimMapViews
import Derived.JoinedTies
import Derived.KernelRfl
namespace Go.Proofs.Ythepnokmoaipfaa
/- THE CELL 'sum', in the pinned program and in every row, IS THE sha256 OF THE DUMP (.gsa) THAT YthepnokmoaipfaaProg.lean LOADS. Nothing in Lean hashes anything: it is a label: what it is worth is what the hold of that sum in a sandbox is worth. -/
noncomputable def Try.pinned : Pinned := { name := "ythepnokmoaipfaa", sum := "67c9710f08f4e18e0c0f20134d258a72f4cb42685ba65f91f78ce8182ce678c0", checked := Try.checked }
namespace Rows
def none {H : Type} : Left H := { results := [], args := [] }

/-- 'precentorlaw19.BagKnown': WHATEVER THE INPUT: true; the input reads as it did. -/
def bagKnownSpec : ChangeSpec := { name := "bagKnown", fn := fun _ => fun
  | [] => { results := [.lit (.bool true)], args := [] }
  | _ => none }
def bagKnownRow : OpenClaim := { program := "ythepnokmoaipfaa", sum := "67c9710f08f4e18e0c0f20134d258a72f4cb42685ba65f91f78ce8182ce678c0", func := "precentor/precentorlaw19.BagKnown", spec := "bagKnown", apart := false }
def BagKnownSaid : Prop := bagKnownRow.holds Try.pinned (OpenSpec.ofChange bagKnownSpec)

/-- ITS FALSE NEIGHBOUR: 'it returns false'. Refute it at one input. -/
def bagKnownWrong : ChangeSpec := { name := "bagKnown", fn := fun _ => fun
  | [] => { results := [.lit (.bool false)], args := [] }
  | _ => none }
def BagKnownWrongFalsely : Prop := bagKnownRow.holds Try.pinned (OpenSpec.ofChange bagKnownWrong)

/-- 'precentorlaw19.BagTells': WHATEVER THE INPUT: true; the input reads as it did. -/
def bagTellsSpec : ChangeSpec := { name := "bagTells", fn := fun _ => fun
  | [d1, d2] => { results := [.lit (.bool true)], args := [d1, d2] }
  | _ => none }
def bagTellsRow : OpenClaim := { program := "ythepnokmoaipfaa", sum := "67c9710f08f4e18e0c0f20134d258a72f4cb42685ba65f91f78ce8182ce678c0", func := "precentor/precentorlaw19.BagTells", spec := "bagTells", apart := false }
def BagTellsSaid : Prop := bagTellsRow.holds Try.pinned (OpenSpec.ofChange bagTellsSpec)

/-- ITS FALSE NEIGHBOUR: 'it returns false'. Refute it at one input. -/
def bagTellsWrong : ChangeSpec := { name := "bagTells", fn := fun _ => fun
  | [d1, d2] => { results := [.lit (.bool false)], args := [d1, d2] }
  | _ => none }
def BagTellsWrongFalsely : Prop := bagTellsRow.holds Try.pinned (OpenSpec.ofChange bagTellsWrong)

/-- 'precentorlaw19.BagOwn': WHATEVER THE INPUT: true; the input reads as it did. -/
def bagOwnSpec : ChangeSpec := { name := "bagOwn", fn := fun _ => fun
  | [d1, d2] => { results := [.lit (.bool true)], args := [d1, d2] }
  | _ => none }
def bagOwnRow : OpenClaim := { program := "ythepnokmoaipfaa", sum := "67c9710f08f4e18e0c0f20134d258a72f4cb42685ba65f91f78ce8182ce678c0", func := "precentor/precentorlaw19.BagOwn", spec := "bagOwn", apart := false }
def BagOwnSaid : Prop := bagOwnRow.holds Try.pinned (OpenSpec.ofChange bagOwnSpec)

/-- ITS FALSE NEIGHBOUR: 'it returns false'. Refute it at one input. -/
def bagOwnWrong : ChangeSpec := { name := "bagOwn", fn := fun _ => fun
  | [d1, d2] => { results := [.lit (.bool false)], args := [d1, d2] }
  | _ => none }
def BagOwnWrongFalsely : Prop := bagOwnRow.holds Try.pinned (OpenSpec.ofChange bagOwnWrong)

/-- 'precentorlaw19.BagOrder': WHATEVER THE INPUT: true; the input reads as it did. -/
def bagOrderSpec : ChangeSpec := { name := "bagOrder", fn := fun _ => fun
  | [d] => { results := [.lit (.bool true)], args := [d] }
  | _ => none }
def bagOrderRow : OpenClaim := { program := "ythepnokmoaipfaa", sum := "67c9710f08f4e18e0c0f20134d258a72f4cb42685ba65f91f78ce8182ce678c0", func := "precentor/precentorlaw19.BagOrder", spec := "bagOrder", apart := false }
def BagOrderSaid : Prop := bagOrderRow.holds Try.pinned (OpenSpec.ofChange bagOrderSpec)

/-- ITS FALSE NEIGHBOUR: 'it returns false'. Refute it at one input. -/
def bagOrderWrong : ChangeSpec := { name := "bagOrder", fn := fun _ => fun
  | [d] => { results := [.lit (.bool false)], args := [d] }
  | _ => none }
def BagOrderWrongFalsely : Prop := bagOrderRow.holds Try.pinned (OpenSpec.ofChange bagOrderWrong)

/- THE SECOND FORM. 'bulk': how many values and letters a reading holds, each counted each time it is reached (what is shared counts as often as it is met; a slice's spare places count too). A statement '..UptoSaid' is the law's where the arguments, and the package variables that the reading takes, are together of bulk at most 1048576: NARROWER than '..Said'. Prove '..Said' where nothing that the law and all that it calls make is longer than what came in: it says more and counts as full. Else prove '..UptoSaid'. A law counts once. -/
mutual
def uptoBulk {H : Type} : DataW H → Nat
  | .lit (.string bytes) => bytes.length + 1
  | .lit _ => 1
  | .nil => 1
  | .ptr d => uptoBulk d + 1
  | .slice elems spare => uptoBulkAll elems + uptoBulkAll spare + 1
  | .agg parts => uptoBulkAll parts + 1
  | .iface _ d => uptoBulk d + 1
  | .map entries => uptoBulkEntries entries + 1
  | .held _ => 1
def uptoBulkAll {H : Type} : List (DataW H) → Nat
  | [] => 0
  | d :: r => uptoBulk d + uptoBulkAll r
def uptoBulkEntries {H : Type} : List (Lit × DataW H) → Nat
  | [] => 0
  | x :: r => uptoBulkEntry x + uptoBulkEntries r
def uptoBulkEntry {H : Type} : Lit × DataW H → Nat
  | (.string bytes, d) => bytes.length + uptoBulk d + 1
  | (_, d) => uptoBulk d + 1
 end
def uptoSmall : (H : Type) → List (DataW H) → Bool := fun _ ds => decide (uptoBulkAll ds ≤ 1048576)
def OpenSpec.upto (s : _root_.Go.ChangeSpec) : _root_.Go.OpenSpec := { _root_.Go.OpenSpec.ofChange s with cond := some uptoSmall }

/-- 'precentorlaw19.BagKnown', WHERE WHAT IT READS IS OF BULK AT MOST 1048576: true; the input reads as it did. -/
def bagKnownUptoRow : OpenClaim := { program := "ythepnokmoaipfaa", sum := "67c9710f08f4e18e0c0f20134d258a72f4cb42685ba65f91f78ce8182ce678c0", func := "precentor/precentorlaw19.BagKnown", spec := "bagKnown", apart := false, narrowed := true }
def BagKnownUptoSaid : Prop := bagKnownUptoRow.holds Try.pinned (OpenSpec.upto bagKnownSpec)

/-- 'precentorlaw19.BagTells', WHERE WHAT IT READS IS OF BULK AT MOST 1048576: true; the input reads as it did. -/
def bagTellsUptoRow : OpenClaim := { program := "ythepnokmoaipfaa", sum := "67c9710f08f4e18e0c0f20134d258a72f4cb42685ba65f91f78ce8182ce678c0", func := "precentor/precentorlaw19.BagTells", spec := "bagTells", apart := false, narrowed := true }
def BagTellsUptoSaid : Prop := bagTellsUptoRow.holds Try.pinned (OpenSpec.upto bagTellsSpec)

/-- 'precentorlaw19.BagOwn', WHERE WHAT IT READS IS OF BULK AT MOST 1048576: true; the input reads as it did. -/
def bagOwnUptoRow : OpenClaim := { program := "ythepnokmoaipfaa", sum := "67c9710f08f4e18e0c0f20134d258a72f4cb42685ba65f91f78ce8182ce678c0", func := "precentor/precentorlaw19.BagOwn", spec := "bagOwn", apart := false, narrowed := true }
def BagOwnUptoSaid : Prop := bagOwnUptoRow.holds Try.pinned (OpenSpec.upto bagOwnSpec)

/-- 'precentorlaw19.BagOrder', WHERE WHAT IT READS IS OF BULK AT MOST 1048576: true; the input reads as it did. -/
def bagOrderUptoRow : OpenClaim := { program := "ythepnokmoaipfaa", sum := "67c9710f08f4e18e0c0f20134d258a72f4cb42685ba65f91f78ce8182ce678c0", func := "precentor/precentorlaw19.BagOrder", spec := "bagOrder", apart := false, narrowed := true }
def BagOrderUptoSaid : Prop := bagOrderUptoRow.holds Try.pinned (OpenSpec.upto bagOrderSpec)

end Rows
end Go.Proofs.Ythepnokmoaipfaa
