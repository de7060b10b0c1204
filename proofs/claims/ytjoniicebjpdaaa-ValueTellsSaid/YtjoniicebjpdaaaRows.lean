/-
  No cell of these rows narrows 'for every input' (looked for: loops, veiled, ifaces, maps, wideKeys, modest, calm, conditions, laid).
  DERIVED. THE GIVEN ROWS OF THIS SEAT. 4 by the template 'for every input the law returns true; each argument reads behind the call as it read before'; 0 by the template 'total and deterministic' (their statements: YtjoniicebjpdaaaTotals.lean).
  GIVEN WITH THE SEED: the statements are not yours to turn. If you find one false, say at which input.
  Laid BY PROGRAM, IN A SANDBOX (cutbox-rows.mjs): the forced cells as the released guide's own fill.sh prints them over the translation 20bff703e22f6571… (all of the seat's roots in one cut). By AI agents, Wed Nov 11 2026. No macro, syntax, notation, axiom, sorry.
-/
import Derived.Test.YtjoniicebjpdaaaChecked
import GoSem.Claim
import GoSem.ClaimJoined
import GoSem.ClaimMapViews
import Derived.JoinedTies
import Derived.KernelRfl
namespace Go.Proofs.Ytjoniicebjpdaaa
/- THE CELL 'sum', in the pinned program and in every row, IS THE sha256 OF THE DUMP (.gsa) THAT YtjoniicebjpdaaaProg.lean LOADS. Nothing in Lean hashes anything: it is a label: what it is worth is what the hold of that sum in a sandbox is worth. -/
noncomputable def Try.pinned : Pinned := { name := "ytjoniicebjpdaaa", sum := "20bff703e22f65713adc001527e688dac0edc4f25d6e79c12dbf3521e94f89f3", checked := Try.checked }
namespace Rows
def none {H : Type} : Left H := { results := [], args := [] }

/-- 'precentorlaw3.ValueKnown': WHATEVER THE INPUT: true; the input reads as it did. -/
def valueKnownSpec : ChangeSpec := { name := "valueKnown", fn := fun _ => fun
  | [] => { results := [.lit (.bool true)], args := [] }
  | _ => none }
def valueKnownRow : OpenClaim := { program := "ytjoniicebjpdaaa", sum := "20bff703e22f65713adc001527e688dac0edc4f25d6e79c12dbf3521e94f89f3", func := "precentor/precentorlaw3.ValueKnown", spec := "valueKnown", inPlace := ["math.Float64frombits", "math.archTrunc", "math.Float64bits"], apart := false }
def ValueKnownSaid : Prop := valueKnownRow.holds Try.pinned (OpenSpec.ofChange valueKnownSpec)

/-- ITS FALSE NEIGHBOUR: 'it returns false'. Refute it at one input. -/
def valueKnownWrong : ChangeSpec := { name := "valueKnown", fn := fun _ => fun
  | [] => { results := [.lit (.bool false)], args := [] }
  | _ => none }
def ValueKnownWrongFalsely : Prop := valueKnownRow.holds Try.pinned (OpenSpec.ofChange valueKnownWrong)

/-- 'precentorlaw3.ValueTells': WHATEVER THE INPUT: true; the input reads as it did. -/
def valueTellsSpec : ChangeSpec := { name := "valueTells", fn := fun _ => fun
  | [d1, d2, d3, d4, d5, d6, d7] => { results := [.lit (.bool true)], args := [d1, d2, d3, d4, d5, d6, d7] }
  | _ => none }
def valueTellsRow : OpenClaim := { program := "ytjoniicebjpdaaa", sum := "20bff703e22f65713adc001527e688dac0edc4f25d6e79c12dbf3521e94f89f3", func := "precentor/precentorlaw3.ValueTells", spec := "valueTells", inPlace := ["math.Float64bits", "math.Float64frombits", "math.archTrunc"], apart := false }
def ValueTellsSaid : Prop := valueTellsRow.holds Try.pinned (OpenSpec.ofChange valueTellsSpec)

/-- ITS FALSE NEIGHBOUR: 'it returns false'. Refute it at one input. -/
def valueTellsWrong : ChangeSpec := { name := "valueTells", fn := fun _ => fun
  | [d1, d2, d3, d4, d5, d6, d7] => { results := [.lit (.bool false)], args := [d1, d2, d3, d4, d5, d6, d7] }
  | _ => none }
def ValueTellsWrongFalsely : Prop := valueTellsRow.holds Try.pinned (OpenSpec.ofChange valueTellsWrong)

/-- 'precentorlaw3.ValueOrder': WHATEVER THE INPUT: true; the input reads as it did. -/
def valueOrderSpec : ChangeSpec := { name := "valueOrder", fn := fun _ => fun
  | [d] => { results := [.lit (.bool true)], args := [d] }
  | _ => none }
def valueOrderRow : OpenClaim := { program := "ytjoniicebjpdaaa", sum := "20bff703e22f65713adc001527e688dac0edc4f25d6e79c12dbf3521e94f89f3", func := "precentor/precentorlaw3.ValueOrder", spec := "valueOrder", inPlace := ["math.Float64bits", "math.Float64frombits", "math.archTrunc"], apart := false }
def ValueOrderSaid : Prop := valueOrderRow.holds Try.pinned (OpenSpec.ofChange valueOrderSpec)

/-- ITS FALSE NEIGHBOUR: 'it returns false'. Refute it at one input. -/
def valueOrderWrong : ChangeSpec := { name := "valueOrder", fn := fun _ => fun
  | [d] => { results := [.lit (.bool false)], args := [d] }
  | _ => none }
def ValueOrderWrongFalsely : Prop := valueOrderRow.holds Try.pinned (OpenSpec.ofChange valueOrderWrong)

/-- 'precentorlaw3.ValueSame': WHATEVER THE INPUT: true; the input reads as it did. -/
def valueSameSpec : ChangeSpec := { name := "valueSame", fn := fun _ => fun
  | [d1, d2] => { results := [.lit (.bool true)], args := [d1, d2] }
  | _ => none }
def valueSameRow : OpenClaim := { program := "ytjoniicebjpdaaa", sum := "20bff703e22f65713adc001527e688dac0edc4f25d6e79c12dbf3521e94f89f3", func := "precentor/precentorlaw3.ValueSame", spec := "valueSame", inPlace := ["math.Float64bits", "math.Float64frombits", "math.archTrunc"], apart := false }
def ValueSameSaid : Prop := valueSameRow.holds Try.pinned (OpenSpec.ofChange valueSameSpec)

/-- ITS FALSE NEIGHBOUR: 'it returns false'. Refute it at one input. -/
def valueSameWrong : ChangeSpec := { name := "valueSame", fn := fun _ => fun
  | [d1, d2] => { results := [.lit (.bool false)], args := [d1, d2] }
  | _ => none }
def ValueSameWrongFalsely : Prop := valueSameRow.holds Try.pinned (OpenSpec.ofChange valueSameWrong)

/- THE SECOND FORM. 'bulk': how many values and letters a reading holds, each counted each time it is reached (what is shared counts as often as it is met; a slice's spare places count too). A statement '..UptoSaid' is the law's where the arguments, and the package variables that the reading takes, are together of bulk at most 1048576: NARROWER than '..Said'. Prove '..Said' where nothing that the law and all that it calls make is longer than what came in: it says more and counts as full. Else prove '..UptoSaid'. A law counts once. -/
mutual
def uptoBulk {H : Type} : DataW H → Nat
  | .lit (.string bytes) => bytes.length + 1
  | .lit _ => 1
  | .nil => 1
  | .ptr d => uptoBulk d + 1
  | .slice elems spare => uptoBulkAll elems + uptoBulkAll spare + 1
  | .agg parts => uptoBulkAll parts + 1
  | .iface _ d => uptoBulk d + 1
  | .map entries => uptoBulkEntries entries + 1
  | .held _ => 1
def uptoBulkAll {H : Type} : List (DataW H) → Nat
  | [] => 0
  | d :: r => uptoBulk d + uptoBulkAll r
def uptoBulkEntries {H : Type} : List (Lit × DataW H) → Nat
  | [] => 0
  | x :: r => uptoBulkEntry x + uptoBulkEntries r
def uptoBulkEntry {H : Type} : Lit × DataW H → Nat
  | (.string bytes, d) => bytes.length + uptoBulk d + 1
  | (_, d) => uptoBulk d + 1
 end
def uptoSmall : (H : Type) → List (DataW H) → Bool := fun _ ds => decide (uptoBulkAll ds ≤ 1048576)
def OpenSpec.upto (s : _root_.Go.ChangeSpec) : _root_.Go.OpenSpec := { _root_.Go.OpenSpec.ofChange s with cond := some uptoSmall }

/-- 'precentorlaw3.ValueKnown', WHERE WHAT IT READS IS OF BULK AT MOST 1048576: true; the input reads as it did. -/
def valueKnownUptoRow : OpenClaim := { program := "ytjoniicebjpdaaa", sum := "20bff703e22f65713adc001527e688dac0edc4f25d6e79c12dbf3521e94f89f3", func := "precentor/precentorlaw3.ValueKnown", spec := "valueKnown", inPlace := ["math.Float64frombits", "math.archTrunc", "math.Float64bits"], apart := false, narrowed := true }
def ValueKnownUptoSaid : Prop := valueKnownUptoRow.holds Try.pinned (OpenSpec.upto valueKnownSpec)

/-- 'precentorlaw3.ValueTells', WHERE WHAT IT READS IS OF BULK AT MOST 1048576: true; the input reads as it did. -/
def valueTellsUptoRow : OpenClaim := { program := "ytjoniicebjpdaaa", sum := "20bff703e22f65713adc001527e688dac0edc4f25d6e79c12dbf3521e94f89f3", func := "precentor/precentorlaw3.ValueTells", spec := "valueTells", inPlace := ["math.Float64bits", "math.Float64frombits", "math.archTrunc"], apart := false, narrowed := true }
def ValueTellsUptoSaid : Prop := valueTellsUptoRow.holds Try.pinned (OpenSpec.upto valueTellsSpec)

/-- 'precentorlaw3.ValueOrder', WHERE WHAT IT READS IS OF BULK AT MOST 1048576: true; the input reads as it did. -/
def valueOrderUptoRow : OpenClaim := { program := "ytjoniicebjpdaaa", sum := "20bff703e22f65713adc001527e688dac0edc4f25d6e79c12dbf3521e94f89f3", func := "precentor/precentorlaw3.ValueOrder", spec := "valueOrder", inPlace := ["math.Float64bits", "math.Float64frombits", "math.archTrunc"], apart := false, narrowed := true }
def ValueOrderUptoSaid : Prop := valueOrderUptoRow.holds Try.pinned (OpenSpec.upto valueOrderSpec)

/-- 'precentorlaw3.ValueSame', WHERE WHAT IT READS IS OF BULK AT MOST 1048576: true; the input reads as it did. -/
def valueSameUptoRow : OpenClaim := { program := "ytjoniicebjpdaaa", sum := "20bff703e22f65713adc001527e688dac0edc4f25d6e79c12dbf3521e94f89f3", func := "precentor/precentorlaw3.ValueSame", spec := "valueSame", inPlace := ["math.Float64bits", "math.Float64frombits", "math.archTrunc"], apart := false, narrowed := true }
def ValueSameUptoSaid : Prop := valueSameUptoRow.holds Try.pinned (OpenSpec.upto valueSameSpec)

end Rows
end Go.Proofs.Ytjoniicebjpdaaa
