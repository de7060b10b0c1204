/-
  No cell of these rows narrows 'for every input' (looked for: loops, veiled, ifaces, maps, wideKeys, modest, calm, conditions, laid).
  DERIVED. THE GIVEN ROWS OF THIS SEAT. 4 by the template 'for every input the law returns true; each argument reads behind the call as it read before'; 0 by the template 'total and deterministic' (their statements: YthachecebkmlaaaTotals.lean).
  GIVEN WITH THE SEED: the statements are not yours to turn. If you find one false, say at which input.
  Laid BY PROGRAM, IN A SANDBOX (cutbox-rows.mjs): the forced cells as the released guide's own fill.sh prints them over the translation be00476027e4dd6d… (all of the seat's roots in one cut). By AI agents, Wed Nov 11 2026. No macro, syntax, notation, axiom, sorry.
-/
import Derived.Test.YthachecebkmlaaaChecked
import GoSem.Claim
import GoSem.ClaimJoined
import GoSem.ClaimMapViews
import Derived.JoinedTies
import Derived.KernelRfl
namespace Go.Proofs.Ythachecebkmlaaa
/- THE CELL 'sum', in the pinned program and in every row, IS THE sha256 OF THE DUMP (.gsa) THAT YthachecebkmlaaaProg.lean LOADS. Nothing in Lean hashes anything: it is a label: what it is worth is what the hold of that sum in a sandbox is worth. -/
noncomputable def Try.pinned : Pinned := { name := "ythachecebkmlaaa", sum := "be00476027e4dd6da08500cebd8801db0f5057f86f5b2607e9e6037168384034", checked := Try.checked }
namespace Rows
def none {H : Type} : Left H := { results := [], args := [] }

/-- 'precentorlaw9.TreeTells': WHATEVER THE INPUT: true; the input reads as it did. -/
def treeTellsSpec : ChangeSpec := { name := "treeTells", fn := fun _ => fun
  | [d1, d2, d3, d4] => { results := [.lit (.bool true)], args := [d1, d2, d3, d4] }
  | _ => none }
def treeTellsRow : OpenClaim := { program := "ythachecebkmlaaa", sum := "be00476027e4dd6da08500cebd8801db0f5057f86f5b2607e9e6037168384034", func := "precentor/precentorlaw9.TreeTells", spec := "treeTells", apart := false }
def TreeTellsSaid : Prop := treeTellsRow.holds Try.pinned (OpenSpec.ofChange treeTellsSpec)

/-- ITS FALSE NEIGHBOUR: 'it returns false'. Refute it at one input. -/
def treeTellsWrong : ChangeSpec := { name := "treeTells", fn := fun _ => fun
  | [d1, d2, d3, d4] => { results := [.lit (.bool false)], args := [d1, d2, d3, d4] }
  | _ => none }
def TreeTellsWrongFalsely : Prop := treeTellsRow.holds Try.pinned (OpenSpec.ofChange treeTellsWrong)

/-- 'precentorlaw9.TreeWays': WHATEVER THE INPUT: true; the input reads as it did. -/
def treeWaysSpec : ChangeSpec := { name := "treeWays", fn := fun _ => fun
  | [d1, d2, d3] => { results := [.lit (.bool true)], args := [d1, d2, d3] }
  | _ => none }
def treeWaysRow : OpenClaim := { program := "ythachecebkmlaaa", sum := "be00476027e4dd6da08500cebd8801db0f5057f86f5b2607e9e6037168384034", func := "precentor/precentorlaw9.TreeWays", spec := "treeWays", apart := false }
def TreeWaysSaid : Prop := treeWaysRow.holds Try.pinned (OpenSpec.ofChange treeWaysSpec)

/-- ITS FALSE NEIGHBOUR: 'it returns false'. Refute it at one input. -/
def treeWaysWrong : ChangeSpec := { name := "treeWays", fn := fun _ => fun
  | [d1, d2, d3] => { results := [.lit (.bool false)], args := [d1, d2, d3] }
  | _ => none }
def TreeWaysWrongFalsely : Prop := treeWaysRow.holds Try.pinned (OpenSpec.ofChange treeWaysWrong)

/-- 'precentorlaw9.TreeSides': WHATEVER THE INPUT: true; the input reads as it did. -/
def treeSidesSpec : ChangeSpec := { name := "treeSides", fn := fun _ => fun
  | [d1, d2] => { results := [.lit (.bool true)], args := [d1, d2] }
  | _ => none }
def treeSidesRow : OpenClaim := { program := "ythachecebkmlaaa", sum := "be00476027e4dd6da08500cebd8801db0f5057f86f5b2607e9e6037168384034", func := "precentor/precentorlaw9.TreeSides", spec := "treeSides", apart := false }
def TreeSidesSaid : Prop := treeSidesRow.holds Try.pinned (OpenSpec.ofChange treeSidesSpec)

/-- ITS FALSE NEIGHBOUR: 'it returns false'. Refute it at one input. -/
def treeSidesWrong : ChangeSpec := { name := "treeSides", fn := fun _ => fun
  | [d1, d2] => { results := [.lit (.bool false)], args := [d1, d2] }
  | _ => none }
def TreeSidesWrongFalsely : Prop := treeSidesRow.holds Try.pinned (OpenSpec.ofChange treeSidesWrong)

/-- 'precentorlaw9.TreePlaces': WHATEVER THE INPUT: true; the input reads as it did. -/
def treePlacesSpec : ChangeSpec := { name := "treePlaces", fn := fun _ => fun
  | [d1, d2] => { results := [.lit (.bool true)], args := [d1, d2] }
  | _ => none }
def treePlacesRow : OpenClaim := { program := "ythachecebkmlaaa", sum := "be00476027e4dd6da08500cebd8801db0f5057f86f5b2607e9e6037168384034", func := "precentor/precentorlaw9.TreePlaces", spec := "treePlaces", unfollowed := true, recurses := true, apart := false }
def TreePlacesSaid : Prop := treePlacesRow.holds Try.pinned (OpenSpec.ofChange treePlacesSpec)

/-- ITS FALSE NEIGHBOUR: 'it returns false'. Refute it at one input. -/
def treePlacesWrong : ChangeSpec := { name := "treePlaces", fn := fun _ => fun
  | [d1, d2] => { results := [.lit (.bool false)], args := [d1, d2] }
  | _ => none }
def TreePlacesWrongFalsely : Prop := treePlacesRow.holds Try.pinned (OpenSpec.ofChange treePlacesWrong)

/- THE SECOND FORM. 'bulk': how many values and letters a reading holds, each counted each time it is reached (what is shared counts as often as it is met; a slice's spare places count too). A statement '..UptoSaid' is the law's where the arguments, and the package variables that the reading takes, are together of bulk at most 1048576: NARROWER than '..Said'. Prove '..Said' where nothing that the law and all that it calls make is longer than what came in: it says more and counts as full. Else prove '..UptoSaid'. A law counts once. -/
mutual
def uptoBulk {H : Type} : DataW H → Nat
  | .lit (.string bytes) => bytes.length + 1
  | .lit _ => 1
  | .nil => 1
  | .ptr d => uptoBulk d + 1
  | .slice elems spare => uptoBulkAll elems + uptoBulkAll spare + 1
  | .agg parts => uptoBulkAll parts + 1
  | .iface _ d => uptoBulk d + 1
  | .map entries => uptoBulkEntries entries + 1
  | .held _ => 1
def uptoBulkAll {H : Type} : List (DataW H) → Nat
  | [] => 0
  | d :: r => uptoBulk d + uptoBulkAll r
def uptoBulkEntries {H : Type} : List (Lit × DataW H) → Nat
  | [] => 0
  | x :: r => uptoBulkEntry x + uptoBulkEntries r
def uptoBulkEntry {H : Type} : Lit × DataW H → Nat
  | (.string bytes, d) => bytes.length + uptoBulk d + 1
  | (_, d) => uptoBulk d + 1
 end
def uptoSmall : (H : Type) → List (DataW H) → Bool := fun _ ds => decide (uptoBulkAll ds ≤ 1048576)
def OpenSpec.upto (s : _root_.Go.ChangeSpec) : _root_.Go.OpenSpec := { _root_.Go.OpenSpec.ofChange s with cond := some uptoSmall }

/-- 'precentorlaw9.TreeTells', WHERE WHAT IT READS IS OF BULK AT MOST 1048576: true; the input reads as it did. -/
def treeTellsUptoRow : OpenClaim := { program := "ythachecebkmlaaa", sum := "be00476027e4dd6da08500cebd8801db0f5057f86f5b2607e9e6037168384034", func := "precentor/precentorlaw9.TreeTells", spec := "treeTells", apart := false, narrowed := true }
def TreeTellsUptoSaid : Prop := treeTellsUptoRow.holds Try.pinned (OpenSpec.upto treeTellsSpec)

/-- 'precentorlaw9.TreeWays', WHERE WHAT IT READS IS OF BULK AT MOST 1048576: true; the input reads as it did. -/
def treeWaysUptoRow : OpenClaim := { program := "ythachecebkmlaaa", sum := "be00476027e4dd6da08500cebd8801db0f5057f86f5b2607e9e6037168384034", func := "precentor/precentorlaw9.TreeWays", spec := "treeWays", apart := false, narrowed := true }
def TreeWaysUptoSaid : Prop := treeWaysUptoRow.holds Try.pinned (OpenSpec.upto treeWaysSpec)

/-- 'precentorlaw9.TreeSides', WHERE WHAT IT READS IS OF BULK AT MOST 1048576: true; the input reads as it did. -/
def treeSidesUptoRow : OpenClaim := { program := "ythachecebkmlaaa", sum := "be00476027e4dd6da08500cebd8801db0f5057f86f5b2607e9e6037168384034", func := "precentor/precentorlaw9.TreeSides", spec := "treeSides", apart := false, narrowed := true }
def TreeSidesUptoSaid : Prop := treeSidesUptoRow.holds Try.pinned (OpenSpec.upto treeSidesSpec)

/-- 'precentorlaw9.TreePlaces', WHERE WHAT IT READS IS OF BULK AT MOST 1048576: true; the input reads as it did. -/
def treePlacesUptoRow : OpenClaim := { program := "ythachecebkmlaaa", sum := "be00476027e4dd6da08500cebd8801db0f5057f86f5b2607e9e6037168384034", func := "precentor/precentorlaw9.TreePlaces", spec := "treePlaces", unfollowed := true, recurses := true, apart := false, narrowed := true }
def TreePlacesUptoSaid : Prop := treePlacesUptoRow.holds Try.pinned (OpenSpec.upto treePlacesSpec)

end Rows
end Go.Proofs.Ythachecebkmlaaa
