/-
  No cell of these rows narrows 'for every input' (looked for: loops, veiled, ifaces, maps, wideKeys, modest, calm, conditions, laid).
  DERIVED. THE GIVEN ROWS OF THIS SEAT. 5 by the template 'for every input the law returns true; each argument reads behind the call as it read before'; 0 by the template 'total and deterministic' (their statements: YtnlcjindeoaklaaTotals.lean).
  GIVEN WITH THE SEED: the statements are not yours to turn. If you find one false, say at which input.
  Laid BY PROGRAM, IN A SANDBOX (cutbox-rows.mjs): the forced cells as the released guide's own fill.sh prints them over the translation a6014ca463a7dad3… (all of the seat's roots in one cut). By AI agents, Wed Nov 11 2026. No macro, syntax, notation, axiom, sorry.
-/
import Derived.Test.YtnlcjindeoaklaaChecked
import GoSem.Claim
import GoSem.ClaimJoined
import GoSem.ClaimMapViews
import Derived.JoinedTies
import Derived.KernelRfl
namespace Go.Proofs.Ytnlcjindeoaklaa
/- THE CELL 'sum', in the pinned program and in every row, IS THE sha256 OF THE DUMP (.gsa) THAT YtnlcjindeoaklaaProg.lean LOADS. Nothing in Lean hashes anything: it is a label: what it is worth is what the hold of that sum in a sandbox is worth. -/
noncomputable def Try.pinned : Pinned := { name := "ytnlcjindeoaklaa", sum := "a6014ca463a7dad3f61f8ad5eac9220b00b0969a86ff0729b0c68943f39ffa59", checked := Try.checked }
namespace Rows
def none {H : Type} : Left H := { results := [], args := [] }

/-- 'precentorlaw2.FloatKnown': WHATEVER THE INPUT: true; the input reads as it did. -/
def floatKnownSpec : ChangeSpec := { name := "floatKnown", fn := fun _ => fun
  | [] => { results := [.lit (.bool true)], args := [] }
  | _ => none }
def floatKnownRow : OpenClaim := { program := "ytnlcjindeoaklaa", sum := "a6014ca463a7dad3f61f8ad5eac9220b00b0969a86ff0729b0c68943f39ffa59", func := "precentor/precentorlaw2.FloatKnown", spec := "floatKnown", inPlace := ["math.Float64frombits", "math.Float64bits", "math.archTrunc"], apart := false }
def FloatKnownSaid : Prop := floatKnownRow.holds Try.pinned (OpenSpec.ofChange floatKnownSpec)

/-- ITS FALSE NEIGHBOUR: 'it returns false'. Refute it at one input. -/
def floatKnownWrong : ChangeSpec := { name := "floatKnown", fn := fun _ => fun
  | [] => { results := [.lit (.bool false)], args := [] }
  | _ => none }
def FloatKnownWrongFalsely : Prop := floatKnownRow.holds Try.pinned (OpenSpec.ofChange floatKnownWrong)

/-- 'precentorlaw2.FloatTells': WHATEVER THE INPUT: true; the input reads as it did. -/
def floatTellsSpec : ChangeSpec := { name := "floatTells", fn := fun _ => fun
  | [d1, d2, d3, d4, d5] => { results := [.lit (.bool true)], args := [d1, d2, d3, d4, d5] }
  | _ => none }
def floatTellsRow : OpenClaim := { program := "ytnlcjindeoaklaa", sum := "a6014ca463a7dad3f61f8ad5eac9220b00b0969a86ff0729b0c68943f39ffa59", func := "precentor/precentorlaw2.FloatTells", spec := "floatTells", inPlace := ["math.Float64bits", "math.Float64frombits", "math.archTrunc"], apart := false }
def FloatTellsSaid : Prop := floatTellsRow.holds Try.pinned (OpenSpec.ofChange floatTellsSpec)

/-- ITS FALSE NEIGHBOUR: 'it returns false'. Refute it at one input. -/
def floatTellsWrong : ChangeSpec := { name := "floatTells", fn := fun _ => fun
  | [d1, d2, d3, d4, d5] => { results := [.lit (.bool false)], args := [d1, d2, d3, d4, d5] }
  | _ => none }
def FloatTellsWrongFalsely : Prop := floatTellsRow.holds Try.pinned (OpenSpec.ofChange floatTellsWrong)

/-- 'precentorlaw2.FloatOrder': WHATEVER THE INPUT: true; the input reads as it did. -/
def floatOrderSpec : ChangeSpec := { name := "floatOrder", fn := fun _ => fun
  | [d1, d2] => { results := [.lit (.bool true)], args := [d1, d2] }
  | _ => none }
def floatOrderRow : OpenClaim := { program := "ytnlcjindeoaklaa", sum := "a6014ca463a7dad3f61f8ad5eac9220b00b0969a86ff0729b0c68943f39ffa59", func := "precentor/precentorlaw2.FloatOrder", spec := "floatOrder", inPlace := ["math.Float64bits", "math.Float64frombits", "math.archTrunc"], apart := false }
def FloatOrderSaid : Prop := floatOrderRow.holds Try.pinned (OpenSpec.ofChange floatOrderSpec)

/-- ITS FALSE NEIGHBOUR: 'it returns false'. Refute it at one input. -/
def floatOrderWrong : ChangeSpec := { name := "floatOrder", fn := fun _ => fun
  | [d1, d2] => { results := [.lit (.bool false)], args := [d1, d2] }
  | _ => none }
def FloatOrderWrongFalsely : Prop := floatOrderRow.holds Try.pinned (OpenSpec.ofChange floatOrderWrong)

/-- 'precentorlaw2.FloatBits': WHATEVER THE INPUT: true; the input reads as it did. -/
def floatBitsSpec : ChangeSpec := { name := "floatBits", fn := fun _ => fun
  | [d1, d2, d3] => { results := [.lit (.bool true)], args := [d1, d2, d3] }
  | _ => none }
def floatBitsRow : OpenClaim := { program := "ytnlcjindeoaklaa", sum := "a6014ca463a7dad3f61f8ad5eac9220b00b0969a86ff0729b0c68943f39ffa59", func := "precentor/precentorlaw2.FloatBits", spec := "floatBits", inPlace := ["math.Float64bits", "math.Float64frombits", "math.archTrunc"], apart := false }
def FloatBitsSaid : Prop := floatBitsRow.holds Try.pinned (OpenSpec.ofChange floatBitsSpec)

/-- ITS FALSE NEIGHBOUR: 'it returns false'. Refute it at one input. -/
def floatBitsWrong : ChangeSpec := { name := "floatBits", fn := fun _ => fun
  | [d1, d2, d3] => { results := [.lit (.bool false)], args := [d1, d2, d3] }
  | _ => none }
def FloatBitsWrongFalsely : Prop := floatBitsRow.holds Try.pinned (OpenSpec.ofChange floatBitsWrong)

/-- 'precentorlaw2.FloatExact': WHATEVER THE INPUT: true; the input reads as it did. -/
def floatExactSpec : ChangeSpec := { name := "floatExact", fn := fun _ => fun
  | [d1, d2] => { results := [.lit (.bool true)], args := [d1, d2] }
  | _ => none }
def floatExactRow : OpenClaim := { program := "ytnlcjindeoaklaa", sum := "a6014ca463a7dad3f61f8ad5eac9220b00b0969a86ff0729b0c68943f39ffa59", func := "precentor/precentorlaw2.FloatExact", spec := "floatExact", inPlace := ["math.Float64frombits", "math.Float64bits", "math.archTrunc", "math.archFloor"], apart := false }
def FloatExactSaid : Prop := floatExactRow.holds Try.pinned (OpenSpec.ofChange floatExactSpec)

/-- ITS FALSE NEIGHBOUR: 'it returns false'. Refute it at one input. -/
def floatExactWrong : ChangeSpec := { name := "floatExact", fn := fun _ => fun
  | [d1, d2] => { results := [.lit (.bool false)], args := [d1, d2] }
  | _ => none }
def FloatExactWrongFalsely : Prop := floatExactRow.holds Try.pinned (OpenSpec.ofChange floatExactWrong)

/- THE SECOND FORM. 'bulk': how many values and letters a reading holds, each counted each time it is reached (what is shared counts as often as it is met; a slice's spare places count too). A statement '..UptoSaid' is the law's where the arguments, and the package variables that the reading takes, are together of bulk at most 1048576: NARROWER than '..Said'. Prove '..Said' where nothing that the law and all that it calls make is longer than what came in: it says more and counts as full. Else prove '..UptoSaid'. A law counts once. -/
mutual
def uptoBulk {H : Type} : DataW H → Nat
  | .lit (.string bytes) => bytes.length + 1
  | .lit _ => 1
  | .nil => 1
  | .ptr d => uptoBulk d + 1
  | .slice elems spare => uptoBulkAll elems + uptoBulkAll spare + 1
  | .agg parts => uptoBulkAll parts + 1
  | .iface _ d => uptoBulk d + 1
  | .map entries => uptoBulkEntries entries + 1
  | .held _ => 1
def uptoBulkAll {H : Type} : List (DataW H) → Nat
  | [] => 0
  | d :: r => uptoBulk d + uptoBulkAll r
def uptoBulkEntries {H : Type} : List (Lit × DataW H) → Nat
  | [] => 0
  | x :: r => uptoBulkEntry x + uptoBulkEntries r
def uptoBulkEntry {H : Type} : Lit × DataW H → Nat
  | (.string bytes, d) => bytes.length + uptoBulk d + 1
  | (_, d) => uptoBulk d + 1
 end
def uptoSmall : (H : Type) → List (DataW H) → Bool := fun _ ds => decide (uptoBulkAll ds ≤ 1048576)
def OpenSpec.upto (s : _root_.Go.ChangeSpec) : _root_.Go.OpenSpec := { _root_.Go.OpenSpec.ofChange s with cond := some uptoSmall }

/-- 'precentorlaw2.FloatKnown', WHERE WHAT IT READS IS OF BULK AT MOST 1048576: true; the input reads as it did. -/
def floatKnownUptoRow : OpenClaim := { program := "ytnlcjindeoaklaa", sum := "a6014ca463a7dad3f61f8ad5eac9220b00b0969a86ff0729b0c68943f39ffa59", func := "precentor/precentorlaw2.FloatKnown", spec := "floatKnown", inPlace := ["math.Float64frombits", "math.Float64bits", "math.archTrunc"], apart := false, narrowed := true }
def FloatKnownUptoSaid : Prop := floatKnownUptoRow.holds Try.pinned (OpenSpec.upto floatKnownSpec)

/-- 'precentorlaw2.FloatTells', WHERE WHAT IT READS IS OF BULK AT MOST 1048576: true; the input reads as it did. -/
def floatTellsUptoRow : OpenClaim := { program := "ytnlcjindeoaklaa", sum := "a6014ca463a7dad3f61f8ad5eac9220b00b0969a86ff0729b0c68943f39ffa59", func := "precentor/precentorlaw2.FloatTells", spec := "floatTells", inPlace := ["math.Float64bits", "math.Float64frombits", "math.archTrunc"], apart := false, narrowed := true }
def FloatTellsUptoSaid : Prop := floatTellsUptoRow.holds Try.pinned (OpenSpec.upto floatTellsSpec)

/-- 'precentorlaw2.FloatOrder', WHERE WHAT IT READS IS OF BULK AT MOST 1048576: true; the input reads as it did. -/
def floatOrderUptoRow : OpenClaim := { program := "ytnlcjindeoaklaa", sum := "a6014ca463a7dad3f61f8ad5eac9220b00b0969a86ff0729b0c68943f39ffa59", func := "precentor/precentorlaw2.FloatOrder", spec := "floatOrder", inPlace := ["math.Float64bits", "math.Float64frombits", "math.archTrunc"], apart := false, narrowed := true }
def FloatOrderUptoSaid : Prop := floatOrderUptoRow.holds Try.pinned (OpenSpec.upto floatOrderSpec)

/-- 'precentorlaw2.FloatBits', WHERE WHAT IT READS IS OF BULK AT MOST 1048576: true; the input reads as it did. -/
def floatBitsUptoRow : OpenClaim := { program := "ytnlcjindeoaklaa", sum := "a6014ca463a7dad3f61f8ad5eac9220b00b0969a86ff0729b0c68943f39ffa59", func := "precentor/precentorlaw2.FloatBits", spec := "floatBits", inPlace := ["math.Float64bits", "math.Float64frombits", "math.archTrunc"], apart := false, narrowed := true }
def FloatBitsUptoSaid : Prop := floatBitsUptoRow.holds Try.pinned (OpenSpec.upto floatBitsSpec)

/-- 'precentorlaw2.FloatExact', WHERE WHAT IT READS IS OF BULK AT MOST 1048576: true; the input reads as it did. -/
def floatExactUptoRow : OpenClaim := { program := "ytnlcjindeoaklaa", sum := "a6014ca463a7dad3f61f8ad5eac9220b00b0969a86ff0729b0c68943f39ffa59", func := "precentor/precentorlaw2.FloatExact", spec := "floatExact", inPlace := ["math.Float64frombits", "math.Float64bits", "math.archTrunc", "math.archFloor"], apart := false, narrowed := true }
def FloatExactUptoSaid : Prop := floatExactUptoRow.holds Try.pinned (OpenSpec.upto floatExactSpec)

end Rows
end Go.Proofs.Ytnlcjindeoaklaa
