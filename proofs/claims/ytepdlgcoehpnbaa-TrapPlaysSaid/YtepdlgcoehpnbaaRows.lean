/-
  No cell of these rows narrows 'for every input' (looked for: loops, veiled, ifaces, maps, wideKeys, modest, calm, conditions, laid).
  DERIVED. THE GIVEN ROWS OF THIS SEAT. 4 by the template 'for every input the law returns true; each argument reads behind the call as it read before'; 0 by the template 'total and deterministic' (their statements: YtepdlgcoehpnbaaTotals.lean).
  GIVEN WITH THE SEED: the statements are not yours to turn. If you find one false, say at which input.
  Laid BY PROGRAM, IN A SANDBOX (cutbox-rows.mjs): the forced cells as the released guide's own fill.sh prints them over the translation 14c7499e157fc815… (all of the seat's roots in one cut). By AI agents, Wed Nov 11 2026. No macro, syntax, notation, axiom, sorry.
-/
import Derived.Test.YtepdlgcoehpnbaaChecked
import GoSem.Claim
import GoSem.ClaimJoined
import GoSem.ClaimMapViews
import Derived.JoinedTies
import Derived.KernelRfl
namespace Go.Proofs.Ytepdlgcoehpnbaa
/- THE CELL 'sum', in the pinned program and in every row, IS THE sha256 OF THE DUMP (.gsa) THAT YtepdlgcoehpnbaaProg.lean LOADS. Nothing in Lean hashes anything: it is a label: what it is worth is what the hold of that sum in a sandbox is worth. -/
noncomputable def Try.pinned : Pinned := { name := "ytepdlgcoehpnbaa", sum := "14c7499e157fc81566e4148b07f55d0a215a1feaf2ef4fca046fb1a2e489a6fc", checked := Try.checked }
namespace Rows
def none {H : Type} : Left H := { results := [], args := [] }

/-- 'precentorlaw1.TrapKnown': WHATEVER THE INPUT: true; the input reads as it did. -/
def trapKnownSpec : ChangeSpec := { name := "trapKnown", fn := fun _ => fun
  | [] => { results := [.lit (.bool true)], args := [] }
  | _ => none }
def trapKnownRow : OpenClaim := { program := "ytepdlgcoehpnbaa", sum := "14c7499e157fc81566e4148b07f55d0a215a1feaf2ef4fca046fb1a2e489a6fc", func := "precentor/precentorlaw1.TrapKnown", spec := "trapKnown", unfollowed := true, recurses := true, apart := false }
def TrapKnownSaid : Prop := trapKnownRow.holds Try.pinned (OpenSpec.ofChange trapKnownSpec)

/-- ITS FALSE NEIGHBOUR: 'it returns false'. Refute it at one input. -/
def trapKnownWrong : ChangeSpec := { name := "trapKnown", fn := fun _ => fun
  | [] => { results := [.lit (.bool false)], args := [] }
  | _ => none }
def TrapKnownWrongFalsely : Prop := trapKnownRow.holds Try.pinned (OpenSpec.ofChange trapKnownWrong)

/-- 'precentorlaw1.TrapPlays': WHATEVER THE INPUT: true; the input reads as it did. -/
def trapPlaysSpec : ChangeSpec := { name := "trapPlays", fn := fun _ => fun
  | [d] => { results := [.lit (.bool true)], args := [d] }
  | _ => none }
def trapPlaysRow : OpenClaim := { program := "ytepdlgcoehpnbaa", sum := "14c7499e157fc81566e4148b07f55d0a215a1feaf2ef4fca046fb1a2e489a6fc", func := "precentor/precentorlaw1.TrapPlays", spec := "trapPlays", unfollowed := true, recurses := true, apart := false }
def TrapPlaysSaid : Prop := trapPlaysRow.holds Try.pinned (OpenSpec.ofChange trapPlaysSpec)

/-- ITS FALSE NEIGHBOUR: 'it returns false'. Refute it at one input. -/
def trapPlaysWrong : ChangeSpec := { name := "trapPlays", fn := fun _ => fun
  | [d] => { results := [.lit (.bool false)], args := [d] }
  | _ => none }
def TrapPlaysWrongFalsely : Prop := trapPlaysRow.holds Try.pinned (OpenSpec.ofChange trapPlaysWrong)

/-- 'precentorlaw1.TrapPasses': WHATEVER THE INPUT: true; the input reads as it did. -/
def trapPassesSpec : ChangeSpec := { name := "trapPasses", fn := fun _ => fun
  | [d1, d2] => { results := [.lit (.bool true)], args := [d1, d2] }
  | _ => none }
def trapPassesRow : OpenClaim := { program := "ytepdlgcoehpnbaa", sum := "14c7499e157fc81566e4148b07f55d0a215a1feaf2ef4fca046fb1a2e489a6fc", func := "precentor/precentorlaw1.TrapPasses", spec := "trapPasses", unfollowed := true, recurses := true, apart := false }
def TrapPassesSaid : Prop := trapPassesRow.holds Try.pinned (OpenSpec.ofChange trapPassesSpec)

/-- ITS FALSE NEIGHBOUR: 'it returns false'. Refute it at one input. -/
def trapPassesWrong : ChangeSpec := { name := "trapPasses", fn := fun _ => fun
  | [d1, d2] => { results := [.lit (.bool false)], args := [d1, d2] }
  | _ => none }
def TrapPassesWrongFalsely : Prop := trapPassesRow.holds Try.pinned (OpenSpec.ofChange trapPassesWrong)

/-- 'precentorlaw1.TrapCounts': WHATEVER THE INPUT: true; the input reads as it did. -/
def trapCountsSpec : ChangeSpec := { name := "trapCounts", fn := fun _ => fun
  | [d] => { results := [.lit (.bool true)], args := [d] }
  | _ => none }
def trapCountsRow : OpenClaim := { program := "ytepdlgcoehpnbaa", sum := "14c7499e157fc81566e4148b07f55d0a215a1feaf2ef4fca046fb1a2e489a6fc", func := "precentor/precentorlaw1.TrapCounts", spec := "trapCounts", unfollowed := true, recurses := true, apart := false }
def TrapCountsSaid : Prop := trapCountsRow.holds Try.pinned (OpenSpec.ofChange trapCountsSpec)

/-- ITS FALSE NEIGHBOUR: 'it returns false'. Refute it at one input. -/
def trapCountsWrong : ChangeSpec := { name := "trapCounts", fn := fun _ => fun
  | [d] => { results := [.lit (.bool false)], args := [d] }
  | _ => none }
def TrapCountsWrongFalsely : Prop := trapCountsRow.holds Try.pinned (OpenSpec.ofChange trapCountsWrong)

/- THE SECOND FORM. 'bulk': how many values and letters a reading holds, each counted each time it is reached (what is shared counts as often as it is met; a slice's spare places count too). A statement '..UptoSaid' is the law's where the arguments, and the package variables that the reading takes, are together of bulk at most 1048576: NARROWER than '..Said'. Prove '..Said' where nothing that the law and all that it calls make is longer than what came in: it says more and counts as full. Else prove '..UptoSaid'. A law counts once. -/
mutual
def uptoBulk {H : Type} : DataW H → Nat
  | .lit (.string bytes) => bytes.length + 1
  | .lit _ => 1
  | .nil => 1
  | .ptr d => uptoBulk d + 1
  | .slice elems spare => uptoBulkAll elems + uptoBulkAll spare + 1
  | .agg parts => uptoBulkAll parts + 1
  | .iface _ d => uptoBulk d + 1
  | .map entries => uptoBulkEntries entries + 1
  | .held _ => 1
def uptoBulkAll {H : Type} : List (DataW H) → Nat
  | [] => 0
  | d :: r => uptoBulk d + uptoBulkAll r
def uptoBulkEntries {H : Type} : List (Lit × DataW H) → Nat
  | [] => 0
  | x :: r => uptoBulkEntry x + uptoBulkEntries r
def uptoBulkEntry {H : Type} : Lit × DataW H → Nat
  | (.string bytes, d) => bytes.length + uptoBulk d + 1
  | (_, d) => uptoBulk d + 1
 end
def uptoSmall : (H : Type) → List (DataW H) → Bool := fun _ ds => decide (uptoBulkAll ds ≤ 1048576)
def OpenSpec.upto (s : _root_.Go.ChangeSpec) : _root_.Go.OpenSpec := { _root_.Go.OpenSpec.ofChange s with cond := some uptoSmall }

/-- 'precentorlaw1.TrapKnown', WHERE WHAT IT READS IS OF BULK AT MOST 1048576: true; the input reads as it did. -/
def trapKnownUptoRow : OpenClaim := { program := "ytepdlgcoehpnbaa", sum := "14c7499e157fc81566e4148b07f55d0a215a1feaf2ef4fca046fb1a2e489a6fc", func := "precentor/precentorlaw1.TrapKnown", spec := "trapKnown", unfollowed := true, recurses := true, apart := false, narrowed := true }
def TrapKnownUptoSaid : Prop := trapKnownUptoRow.holds Try.pinned (OpenSpec.upto trapKnownSpec)

/-- 'precentorlaw1.TrapPlays', WHERE WHAT IT READS IS OF BULK AT MOST 1048576: true; the input reads as it did. -/
def trapPlaysUptoRow : OpenClaim := { program := "ytepdlgcoehpnbaa", sum := "14c7499e157fc81566e4148b07f55d0a215a1feaf2ef4fca046fb1a2e489a6fc", func := "precentor/precentorlaw1.TrapPlays", spec := "trapPlays", unfollowed := true, recurses := true, apart := false, narrowed := true }
def TrapPlaysUptoSaid : Prop := trapPlaysUptoRow.holds Try.pinned (OpenSpec.upto trapPlaysSpec)

/-- 'precentorlaw1.TrapPasses', WHERE WHAT IT READS IS OF BULK AT MOST 1048576: true; the input reads as it did. -/
def trapPassesUptoRow : OpenClaim := { program := "ytepdlgcoehpnbaa", sum := "14c7499e157fc81566e4148b07f55d0a215a1feaf2ef4fca046fb1a2e489a6fc", func := "precentor/precentorlaw1.TrapPasses", spec := "trapPasses", unfollowed := true, recurses := true, apart := false, narrowed := true }
def TrapPassesUptoSaid : Prop := trapPassesUptoRow.holds Try.pinned (OpenSpec.upto trapPassesSpec)

/-- 'precentorlaw1.TrapCounts', WHERE WHAT IT READS IS OF BULK AT MOST 1048576: true; the input reads as it did. -/
def trapCountsUptoRow : OpenClaim := { program := "ytepdlgcoehpnbaa", sum := "14c7499e157fc81566e4148b07f55d0a215a1feaf2ef4fca046fb1a2e489a6fc", func := "precentor/precentorlaw1.TrapCounts", spec := "trapCounts", unfollowed := true, recurses := true, apart := false, narrowed := true }
def TrapCountsUptoSaid : Prop := trapCountsUptoRow.holds Try.pinned (OpenSpec.upto trapCountsSpec)

end Rows
end Go.Proofs.Ytepdlgcoehpnbaa
