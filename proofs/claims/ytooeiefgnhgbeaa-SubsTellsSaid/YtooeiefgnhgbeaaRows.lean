/-
  No cell of these rows narrows 'for every input' (looked for: loops, veiled, ifaces, maps, wideKeys, modest, calm, conditions, laid).
  DERIVED. THE GIVEN ROWS OF THIS SEAT. 4 by the template 'for every input the law returns true; each argument reads behind the call as it read before'; 0 by the template 'total and deterministic' (their statements: YtooeiefgnhgbeaaTotals.lean).
  GIVEN WITH THE SEED: the statements are not yours to turn. If you find one false, say at which input.
  Laid BY PROGRAM, IN A SANDBOX (cutbox-rows.mjs): the forced cells as the released guide's own fill.sh prints them over the translation 307612234aa94f2a… (all of the seat's roots in one cut). By AI agents, Wed Nov 11 2026. No macro, syntax, notation, axiom, sorry.
-/
import Derived.Test.YtooeiefgnhgbeaaChecked
import GoSem.Claim
import GoSem.ClaimJoined
import GoSem.ClaimMapViews
import Derived.JoinedTies
import Derived.KernelRfl
namespace Go.Proofs.Ytooeiefgnhgbeaa
/- THE CELL 'sum', in the pinned program and in every row, IS THE sha256 OF THE DUMP (.gsa) THAT YtooeiefgnhgbeaaProg.lean LOADS. Nothing in Lean hashes anything: it is a label: what it is worth is what the hold of that sum in a sandbox is worth. -/
noncomputable def Try.pinned : Pinned := { name := "ytooeiefgnhgbeaa", sum := "307612234aa94f2acce8e22757acd0cee02270e7f51016aac486c771e2e9945f", checked := Try.checked }
namespace Rows
def none {H : Type} : Left H := { results := [], args := [] }

/-- 'precentorlaw11.SubsKnown': WHATEVER THE INPUT: true; the input reads as it did. -/
def subsKnownSpec : ChangeSpec := { name := "subsKnown", fn := fun _ => fun
  | [] => { results := [.lit (.bool true)], args := [] }
  | _ => none }
def subsKnownRow : OpenClaim := { program := "ytooeiefgnhgbeaa", sum := "307612234aa94f2acce8e22757acd0cee02270e7f51016aac486c771e2e9945f", func := "precentor/precentorlaw11.SubsKnown", spec := "subsKnown", inPlace := ["math.Float64bits"], apart := false }
def SubsKnownSaid : Prop := subsKnownRow.holds Try.pinned (OpenSpec.ofChange subsKnownSpec)

/-- ITS FALSE NEIGHBOUR: 'it returns false'. Refute it at one input. -/
def subsKnownWrong : ChangeSpec := { name := "subsKnown", fn := fun _ => fun
  | [] => { results := [.lit (.bool false)], args := [] }
  | _ => none }
def SubsKnownWrongFalsely : Prop := subsKnownRow.holds Try.pinned (OpenSpec.ofChange subsKnownWrong)

/-- 'precentorlaw11.SubsTells': WHATEVER THE INPUT: true; the input reads as it did. -/
def subsTellsSpec : ChangeSpec := { name := "subsTells", fn := fun _ => fun
  | [d1, d2, d3] => { results := [.lit (.bool true)], args := [d1, d2, d3] }
  | _ => none }
def subsTellsRow : OpenClaim := { program := "ytooeiefgnhgbeaa", sum := "307612234aa94f2acce8e22757acd0cee02270e7f51016aac486c771e2e9945f", func := "precentor/precentorlaw11.SubsTells", spec := "subsTells", inPlace := ["math.Float64bits", "math.Float64frombits"], apart := false }
def SubsTellsSaid : Prop := subsTellsRow.holds Try.pinned (OpenSpec.ofChange subsTellsSpec)

/-- ITS FALSE NEIGHBOUR: 'it returns false'. Refute it at one input. -/
def subsTellsWrong : ChangeSpec := { name := "subsTells", fn := fun _ => fun
  | [d1, d2, d3] => { results := [.lit (.bool false)], args := [d1, d2, d3] }
  | _ => none }
def SubsTellsWrongFalsely : Prop := subsTellsRow.holds Try.pinned (OpenSpec.ofChange subsTellsWrong)

/-- 'precentorlaw11.SubsMap': WHATEVER THE INPUT: true; the input reads as it did. -/
def subsMapSpec : ChangeSpec := { name := "subsMap", fn := fun _ => fun
  | [d1, d2] => { results := [.lit (.bool true)], args := [d1, d2] }
  | _ => none }
def subsMapRow : OpenClaim := { program := "ytooeiefgnhgbeaa", sum := "307612234aa94f2acce8e22757acd0cee02270e7f51016aac486c771e2e9945f", func := "precentor/precentorlaw11.SubsMap", spec := "subsMap", inPlace := ["math.Float64bits", "math.Float64frombits"], apart := false }
def SubsMapSaid : Prop := subsMapRow.holds Try.pinned (OpenSpec.ofChange subsMapSpec)

/-- ITS FALSE NEIGHBOUR: 'it returns false'. Refute it at one input. -/
def subsMapWrong : ChangeSpec := { name := "subsMap", fn := fun _ => fun
  | [d1, d2] => { results := [.lit (.bool false)], args := [d1, d2] }
  | _ => none }
def SubsMapWrongFalsely : Prop := subsMapRow.holds Try.pinned (OpenSpec.ofChange subsMapWrong)

/-- 'precentorlaw11.SubsOwn': WHATEVER THE INPUT: true; the input reads as it did. -/
def subsOwnSpec : ChangeSpec := { name := "subsOwn", fn := fun _ => fun
  | [d1, d2] => { results := [.lit (.bool true)], args := [d1, d2] }
  | _ => none }
def subsOwnRow : OpenClaim := { program := "ytooeiefgnhgbeaa", sum := "307612234aa94f2acce8e22757acd0cee02270e7f51016aac486c771e2e9945f", func := "precentor/precentorlaw11.SubsOwn", spec := "subsOwn", inPlace := ["math.Float64bits", "math.Float64frombits"], apart := false }
def SubsOwnSaid : Prop := subsOwnRow.holds Try.pinned (OpenSpec.ofChange subsOwnSpec)

/-- ITS FALSE NEIGHBOUR: 'it returns false'. Refute it at one input. -/
def subsOwnWrong : ChangeSpec := { name := "subsOwn", fn := fun _ => fun
  | [d1, d2] => { results := [.lit (.bool false)], args := [d1, d2] }
  | _ => none }
def SubsOwnWrongFalsely : Prop := subsOwnRow.holds Try.pinned (OpenSpec.ofChange subsOwnWrong)

/- THE SECOND FORM. 'bulk': how many values and letters a reading holds, each counted each time it is reached (what is shared counts as often as it is met; a slice's spare places count too). A statement '..UptoSaid' is the law's where the arguments, and the package variables that the reading takes, are together of bulk at most 1048576: NARROWER than '..Said'. Prove '..Said' where nothing that the law and all that it calls make is longer than what came in: it says more and counts as full. Else prove '..UptoSaid'. A law counts once. -/
mutual
def uptoBulk {H : Type} : DataW H → Nat
  | .lit (.string bytes) => bytes.length + 1
  | .lit _ => 1
  | .nil => 1
  | .ptr d => uptoBulk d + 1
  | .slice elems spare => uptoBulkAll elems + uptoBulkAll spare + 1
  | .agg parts => uptoBulkAll parts + 1
  | .iface _ d => uptoBulk d + 1
  | .map entries => uptoBulkEntries entries + 1
  | .held _ => 1
def uptoBulkAll {H : Type} : List (DataW H) → Nat
  | [] => 0
  | d :: r => uptoBulk d + uptoBulkAll r
def uptoBulkEntries {H : Type} : List (Lit × DataW H) → Nat
  | [] => 0
  | x :: r => uptoBulkEntry x + uptoBulkEntries r
def uptoBulkEntry {H : Type} : Lit × DataW H → Nat
  | (.string bytes, d) => bytes.length + uptoBulk d + 1
  | (_, d) => uptoBulk d + 1
 end
def uptoSmall : (H : Type) → List (DataW H) → Bool := fun _ ds => decide (uptoBulkAll ds ≤ 1048576)
def OpenSpec.upto (s : _root_.Go.ChangeSpec) : _root_.Go.OpenSpec := { _root_.Go.OpenSpec.ofChange s with cond := some uptoSmall }

/-- 'precentorlaw11.SubsKnown', WHERE WHAT IT READS IS OF BULK AT MOST 1048576: true; the input reads as it did. -/
def subsKnownUptoRow : OpenClaim := { program := "ytooeiefgnhgbeaa", sum := "307612234aa94f2acce8e22757acd0cee02270e7f51016aac486c771e2e9945f", func := "precentor/precentorlaw11.SubsKnown", spec := "subsKnown", inPlace := ["math.Float64bits"], apart := false, narrowed := true }
def SubsKnownUptoSaid : Prop := subsKnownUptoRow.holds Try.pinned (OpenSpec.upto subsKnownSpec)

/-- 'precentorlaw11.SubsTells', WHERE WHAT IT READS IS OF BULK AT MOST 1048576: true; the input reads as it did. -/
def subsTellsUptoRow : OpenClaim := { program := "ytooeiefgnhgbeaa", sum := "307612234aa94f2acce8e22757acd0cee02270e7f51016aac486c771e2e9945f", func := "precentor/precentorlaw11.SubsTells", spec := "subsTells", inPlace := ["math.Float64bits", "math.Float64frombits"], apart := false, narrowed := true }
def SubsTellsUptoSaid : Prop := subsTellsUptoRow.holds Try.pinned (OpenSpec.upto subsTellsSpec)

/-- 'precentorlaw11.SubsMap', WHERE WHAT IT READS IS OF BULK AT MOST 1048576: true; the input reads as it did. -/
def subsMapUptoRow : OpenClaim := { program := "ytooeiefgnhgbeaa", sum := "307612234aa94f2acce8e22757acd0cee02270e7f51016aac486c771e2e9945f", func := "precentor/precentorlaw11.SubsMap", spec := "subsMap", inPlace := ["math.Float64bits", "math.Float64frombits"], apart := false, narrowed := true }
def SubsMapUptoSaid : Prop := subsMapUptoRow.holds Try.pinned (OpenSpec.upto subsMapSpec)

/-- 'precentorlaw11.SubsOwn', WHERE WHAT IT READS IS OF BULK AT MOST 1048576: true; the input reads as it did. -/
def subsOwnUptoRow : OpenClaim := { program := "ytooeiefgnhgbeaa", sum := "307612234aa94f2acce8e22757acd0cee02270e7f51016aac486c771e2e9945f", func := "precentor/precentorlaw11.SubsOwn", spec := "subsOwn", inPlace := ["math.Float64bits", "math.Float64frombits"], apart := false, narrowed := true }
def SubsOwnUptoSaid : Prop := subsOwnUptoRow.holds Try.pinned (OpenSpec.upto subsOwnSpec)

end Rows
end Go.Proofs.Ytooeiefgnhgbeaa
