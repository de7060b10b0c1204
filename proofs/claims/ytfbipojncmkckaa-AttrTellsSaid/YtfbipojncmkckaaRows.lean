/-
  No cell of these rows narrows 'for every input' (looked for: loops, veiled, ifaces, maps, wideKeys, modest, calm, conditions, laid).
  DERIVED. THE GIVEN ROWS OF THIS SEAT. 4 by the template 'for every input the law returns true; each argument reads behind the call as it read before'; 0 by the template 'total and deterministic' (their statements: YtfbipojncmkckaaTotals.lean).
  GIVEN WITH THE SEED: the statements are not yours to turn. If you find one false, say at which input.
  Laid BY PROGRAM, IN A SANDBOX (cutbox-rows.mjs): the forced cells as the released guide's own fill.sh prints them over the translation 7a0d64eb78c05f54… (all of the seat's roots in one cut). By AI agents, Wed Nov 11 2026. No macro, syntax, notation, axiom, sorry.
-/
import Derived.Test.YtfbipojncmkckaaChecked
import GoSem.Claim
import GoSem.ClaimJoined
import GoSem.ClaimMapViews
import Derived.JoinedTies
import Derived.KernelRfl
namespace Go.Proofs.Ytfbipojncmkckaa
/- THE CELL 'sum', in the pinned program and in every row, IS THE sha256 OF THE DUMP (.gsa) THAT YtfbipojncmkckaaProg.lean LOADS. Nothing in Lean hashes anything: it is a label: what it is worth is what the hold of that sum in a sandbox is worth. -/
noncomputable def Try.pinned : Pinned := { name := "ytfbipojncmkckaa", sum := "7a0d64eb78c05f544f79d65b89d3409d37f8c12b50adc32e87989f7a1e230a18", checked := Try.checked }
namespace Rows
def none {H : Type} : Left H := { results := [], args := [] }

/-- 'precentorlaw5.AttrKnown': WHATEVER THE INPUT: true; the input reads as it did. -/
def attrKnownSpec : ChangeSpec := { name := "attrKnown", fn := fun _ => fun
  | [] => { results := [.lit (.bool true)], args := [] }
  | _ => none }
def attrKnownRow : OpenClaim := { program := "ytfbipojncmkckaa", sum := "7a0d64eb78c05f544f79d65b89d3409d37f8c12b50adc32e87989f7a1e230a18", func := "precentor/precentorlaw5.AttrKnown", spec := "attrKnown", inPlace := ["math.Float64bits"], apart := false }
def AttrKnownSaid : Prop := attrKnownRow.holds Try.pinned (OpenSpec.ofChange attrKnownSpec)

/-- ITS FALSE NEIGHBOUR: 'it returns false'. Refute it at one input. -/
def attrKnownWrong : ChangeSpec := { name := "attrKnown", fn := fun _ => fun
  | [] => { results := [.lit (.bool false)], args := [] }
  | _ => none }
def AttrKnownWrongFalsely : Prop := attrKnownRow.holds Try.pinned (OpenSpec.ofChange attrKnownWrong)

/-- 'precentorlaw5.AttrTells': WHATEVER THE INPUT: true; the input reads as it did. -/
def attrTellsSpec : ChangeSpec := { name := "attrTells", fn := fun _ => fun
  | [d1, d2, d3, d4] => { results := [.lit (.bool true)], args := [d1, d2, d3, d4] }
  | _ => none }
def attrTellsRow : OpenClaim := { program := "ytfbipojncmkckaa", sum := "7a0d64eb78c05f544f79d65b89d3409d37f8c12b50adc32e87989f7a1e230a18", func := "precentor/precentorlaw5.AttrTells", spec := "attrTells", inPlace := ["math.Float64bits", "math.Float64frombits"], apart := false }
def AttrTellsSaid : Prop := attrTellsRow.holds Try.pinned (OpenSpec.ofChange attrTellsSpec)

/-- ITS FALSE NEIGHBOUR: 'it returns false'. Refute it at one input. -/
def attrTellsWrong : ChangeSpec := { name := "attrTells", fn := fun _ => fun
  | [d1, d2, d3, d4] => { results := [.lit (.bool false)], args := [d1, d2, d3, d4] }
  | _ => none }
def AttrTellsWrongFalsely : Prop := attrTellsRow.holds Try.pinned (OpenSpec.ofChange attrTellsWrong)

/-- 'precentorlaw5.AttrFinds': WHATEVER THE INPUT: true; the input reads as it did. -/
def attrFindsSpec : ChangeSpec := { name := "attrFinds", fn := fun _ => fun
  | [d1, d2] => { results := [.lit (.bool true)], args := [d1, d2] }
  | _ => none }
def attrFindsRow : OpenClaim := { program := "ytfbipojncmkckaa", sum := "7a0d64eb78c05f544f79d65b89d3409d37f8c12b50adc32e87989f7a1e230a18", func := "precentor/precentorlaw5.AttrFinds", spec := "attrFinds", inPlace := ["math.Float64bits", "math.Float64frombits"], apart := false }
def AttrFindsSaid : Prop := attrFindsRow.holds Try.pinned (OpenSpec.ofChange attrFindsSpec)

/-- ITS FALSE NEIGHBOUR: 'it returns false'. Refute it at one input. -/
def attrFindsWrong : ChangeSpec := { name := "attrFinds", fn := fun _ => fun
  | [d1, d2] => { results := [.lit (.bool false)], args := [d1, d2] }
  | _ => none }
def AttrFindsWrongFalsely : Prop := attrFindsRow.holds Try.pinned (OpenSpec.ofChange attrFindsWrong)

/-- 'precentorlaw5.AttrOwn': WHATEVER THE INPUT: true; the input reads as it did. -/
def attrOwnSpec : ChangeSpec := { name := "attrOwn", fn := fun _ => fun
  | [d1, d2] => { results := [.lit (.bool true)], args := [d1, d2] }
  | _ => none }
def attrOwnRow : OpenClaim := { program := "ytfbipojncmkckaa", sum := "7a0d64eb78c05f544f79d65b89d3409d37f8c12b50adc32e87989f7a1e230a18", func := "precentor/precentorlaw5.AttrOwn", spec := "attrOwn", inPlace := ["math.Float64bits", "math.Float64frombits"], apart := false }
def AttrOwnSaid : Prop := attrOwnRow.holds Try.pinned (OpenSpec.ofChange attrOwnSpec)

/-- ITS FALSE NEIGHBOUR: 'it returns false'. Refute it at one input. -/
def attrOwnWrong : ChangeSpec := { name := "attrOwn", fn := fun _ => fun
  | [d1, d2] => { results := [.lit (.bool false)], args := [d1, d2] }
  | _ => none }
def AttrOwnWrongFalsely : Prop := attrOwnRow.holds Try.pinned (OpenSpec.ofChange attrOwnWrong)

/- THE SECOND FORM. 'bulk': how many values and letters a reading holds, each counted each time it is reached (what is shared counts as often as it is met; a slice's spare places count too). A statement '..UptoSaid' is the law's where the arguments, and the package variables that the reading takes, are together of bulk at most 1048576: NARROWER than '..Said'. Prove '..Said' where nothing that the law and all that it calls make is longer than what came in: it says more and counts as full. Else prove '..UptoSaid'. A law counts once. -/
mutual
def uptoBulk {H : Type} : DataW H → Nat
  | .lit (.string bytes) => bytes.length + 1
  | .lit _ => 1
  | .nil => 1
  | .ptr d => uptoBulk d + 1
  | .slice elems spare => uptoBulkAll elems + uptoBulkAll spare + 1
  | .agg parts => uptoBulkAll parts + 1
  | .iface _ d => uptoBulk d + 1
  | .map entries => uptoBulkEntries entries + 1
  | .held _ => 1
def uptoBulkAll {H : Type} : List (DataW H) → Nat
  | [] => 0
  | d :: r => uptoBulk d + uptoBulkAll r
def uptoBulkEntries {H : Type} : List (Lit × DataW H) → Nat
  | [] => 0
  | x :: r => uptoBulkEntry x + uptoBulkEntries r
def uptoBulkEntry {H : Type} : Lit × DataW H → Nat
  | (.string bytes, d) => bytes.length + uptoBulk d + 1
  | (_, d) => uptoBulk d + 1
 end
def uptoSmall : (H : Type) → List (DataW H) → Bool := fun _ ds => decide (uptoBulkAll ds ≤ 1048576)
def OpenSpec.upto (s : _root_.Go.ChangeSpec) : _root_.Go.OpenSpec := { _root_.Go.OpenSpec.ofChange s with cond := some uptoSmall }

/-- 'precentorlaw5.AttrKnown', WHERE WHAT IT READS IS OF BULK AT MOST 1048576: true; the input reads as it did. -/
def attrKnownUptoRow : OpenClaim := { program := "ytfbipojncmkckaa", sum := "7a0d64eb78c05f544f79d65b89d3409d37f8c12b50adc32e87989f7a1e230a18", func := "precentor/precentorlaw5.AttrKnown", spec := "attrKnown", inPlace := ["math.Float64bits"], apart := false, narrowed := true }
def AttrKnownUptoSaid : Prop := attrKnownUptoRow.holds Try.pinned (OpenSpec.upto attrKnownSpec)

/-- 'precentorlaw5.AttrTells', WHERE WHAT IT READS IS OF BULK AT MOST 1048576: true; the input reads as it did. -/
def attrTellsUptoRow : OpenClaim := { program := "ytfbipojncmkckaa", sum := "7a0d64eb78c05f544f79d65b89d3409d37f8c12b50adc32e87989f7a1e230a18", func := "precentor/precentorlaw5.AttrTells", spec := "attrTells", inPlace := ["math.Float64bits", "math.Float64frombits"], apart := false, narrowed := true }
def AttrTellsUptoSaid : Prop := attrTellsUptoRow.holds Try.pinned (OpenSpec.upto attrTellsSpec)

/-- 'precentorlaw5.AttrFinds', WHERE WHAT IT READS IS OF BULK AT MOST 1048576: true; the input reads as it did. -/
def attrFindsUptoRow : OpenClaim := { program := "ytfbipojncmkckaa", sum := "7a0d64eb78c05f544f79d65b89d3409d37f8c12b50adc32e87989f7a1e230a18", func := "precentor/precentorlaw5.AttrFinds", spec := "attrFinds", inPlace := ["math.Float64bits", "math.Float64frombits"], apart := false, narrowed := true }
def AttrFindsUptoSaid : Prop := attrFindsUptoRow.holds Try.pinned (OpenSpec.upto attrFindsSpec)

/-- 'precentorlaw5.AttrOwn', WHERE WHAT IT READS IS OF BULK AT MOST 1048576: true; the input reads as it did. -/
def attrOwnUptoRow : OpenClaim := { program := "ytfbipojncmkckaa", sum := "7a0d64eb78c05f544f79d65b89d3409d37f8c12b50adc32e87989f7a1e230a18", func := "precentor/precentorlaw5.AttrOwn", spec := "attrOwn", inPlace := ["math.Float64bits", "math.Float64frombits"], apart := false, narrowed := true }
def AttrOwnUptoSaid : Prop := attrOwnUptoRow.holds Try.pinned (OpenSpec.upto attrOwnSpec)

end Rows
end Go.Proofs.Ytfbipojncmkckaa
