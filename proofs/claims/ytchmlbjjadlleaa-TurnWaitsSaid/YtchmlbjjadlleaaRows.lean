/-
  No cell of these rows narrows 'for every input' (looked for: loops, veiled, ifaces, maps, wideKeys, modest, calm, conditions, laid).
  DERIVED. THE GIVEN ROWS OF THIS SEAT. 4 by the template 'for every input the law returns true; each argument reads behind the call as it read before'; 0 by the template 'total and deterministic' (their statements: YtchmlbjjadlleaaTotals.lean).
  GIVEN WITH THE SEED: the statements are not yours to turn. If you find one false, say at which input.
  Laid BY PROGRAM, IN A SANDBOX (cutbox-rows.mjs): the forced cells as the released guide's own fill.sh prints them over the translation 55020e7787f5c1f0… (all of the seat's roots in one cut). By AI agents, Wed Nov 11 2026. No macro, syntax, notation, axiom, sorry.
-/
import Derived.Test.YtchmlbjjadlleaaChecked
import GoSem.Claim
import GoSem.ClaimJoined
import GoSem.ClaimMapViews
import Derived.JoinedTies
import Derived.KernelRfl
namespace Go.Proofs.Ytchmlbjjadlleaa
/- THE CELL 'sum', in the pinned program and in every row, IS THE sha256 OF THE DUMP (.gsa) THAT YtchmlbjjadlleaaProg.lean LOADS. Nothing in Lean hashes anything: it is a label: what it is worth is what the hold of that sum in a sandbox is worth. -/
noncomputable def Try.pinned : Pinned := { name := "ytchmlbjjadlleaa", sum := "55020e7787f5c1f01c192db806118c3c54225e3bab569b9436fd064faadbf27f", checked := Try.checked }
namespace Rows
def none {H : Type} : Left H := { results := [], args := [] }

/-- 'precentorlaw21.TurnKnown': WHATEVER THE INPUT: true; the input reads as it did. -/
def turnKnownSpec : ChangeSpec := { name := "turnKnown", fn := fun _ => fun
  | [] => { results := [.lit (.bool true)], args := [] }
  | _ => none }
def turnKnownRow : OpenClaim := { program := "ytchmlbjjadlleaa", sum := "55020e7787f5c1f01c192db806118c3c54225e3bab569b9436fd064faadbf27f", func := "precentor/precentorlaw21.TurnKnown", spec := "turnKnown", apart := false }
def TurnKnownSaid : Prop := turnKnownRow.holds Try.pinned (OpenSpec.ofChange turnKnownSpec)

/-- ITS FALSE NEIGHBOUR: 'it returns false'. Refute it at one input. -/
def turnKnownWrong : ChangeSpec := { name := "turnKnown", fn := fun _ => fun
  | [] => { results := [.lit (.bool false)], args := [] }
  | _ => none }
def TurnKnownWrongFalsely : Prop := turnKnownRow.holds Try.pinned (OpenSpec.ofChange turnKnownWrong)

/-- 'precentorlaw21.TurnKeeps': WHATEVER THE INPUT: true; the input reads as it did. -/
def turnKeepsSpec : ChangeSpec := { name := "turnKeeps", fn := fun _ => fun
  | [d] => { results := [.lit (.bool true)], args := [d] }
  | _ => none }
def turnKeepsRow : OpenClaim := { program := "ytchmlbjjadlleaa", sum := "55020e7787f5c1f01c192db806118c3c54225e3bab569b9436fd064faadbf27f", func := "precentor/precentorlaw21.TurnKeeps", spec := "turnKeeps", apart := false }
def TurnKeepsSaid : Prop := turnKeepsRow.holds Try.pinned (OpenSpec.ofChange turnKeepsSpec)

/-- ITS FALSE NEIGHBOUR: 'it returns false'. Refute it at one input. -/
def turnKeepsWrong : ChangeSpec := { name := "turnKeeps", fn := fun _ => fun
  | [d] => { results := [.lit (.bool false)], args := [d] }
  | _ => none }
def TurnKeepsWrongFalsely : Prop := turnKeepsRow.holds Try.pinned (OpenSpec.ofChange turnKeepsWrong)

/-- 'precentorlaw21.TurnTells': WHATEVER THE INPUT: true; the input reads as it did. -/
def turnTellsSpec : ChangeSpec := { name := "turnTells", fn := fun _ => fun
  | [d1, d2] => { results := [.lit (.bool true)], args := [d1, d2] }
  | _ => none }
def turnTellsRow : OpenClaim := { program := "ytchmlbjjadlleaa", sum := "55020e7787f5c1f01c192db806118c3c54225e3bab569b9436fd064faadbf27f", func := "precentor/precentorlaw21.TurnTells", spec := "turnTells", inPlace := ["math.Float64bits"], apart := false }
def TurnTellsSaid : Prop := turnTellsRow.holds Try.pinned (OpenSpec.ofChange turnTellsSpec)

/-- ITS FALSE NEIGHBOUR: 'it returns false'. Refute it at one input. -/
def turnTellsWrong : ChangeSpec := { name := "turnTells", fn := fun _ => fun
  | [d1, d2] => { results := [.lit (.bool false)], args := [d1, d2] }
  | _ => none }
def TurnTellsWrongFalsely : Prop := turnTellsRow.holds Try.pinned (OpenSpec.ofChange turnTellsWrong)

/-- 'precentorlaw21.TurnWaits': WHATEVER THE INPUT: true; the input reads as it did. -/
def turnWaitsSpec : ChangeSpec := { name := "turnWaits", fn := fun _ => fun
  | [d1, d2] => { results := [.lit (.bool true)], args := [d1, d2] }
  | _ => none }
def turnWaitsRow : OpenClaim := { program := "ytchmlbjjadlleaa", sum := "55020e7787f5c1f01c192db806118c3c54225e3bab569b9436fd064faadbf27f", func := "precentor/precentorlaw21.TurnWaits", spec := "turnWaits", apart := false }
def TurnWaitsSaid : Prop := turnWaitsRow.holds Try.pinned (OpenSpec.ofChange turnWaitsSpec)

/-- ITS FALSE NEIGHBOUR: 'it returns false'. Refute it at one input. -/
def turnWaitsWrong : ChangeSpec := { name := "turnWaits", fn := fun _ => fun
  | [d1, d2] => { results := [.lit (.bool false)], args := [d1, d2] }
  | _ => none }
def TurnWaitsWrongFalsely : Prop := turnWaitsRow.holds Try.pinned (OpenSpec.ofChange turnWaitsWrong)

/- THE SECOND FORM. 'bulk': how many values and letters a reading holds, each counted each time it is reached (what is shared counts as often as it is met; a slice's spare places count too). A statement '..UptoSaid' is the law's where the arguments, and the package variables that the reading takes, are together of bulk at most 1048576: NARROWER than '..Said'. Prove '..Said' where nothing that the law and all that it calls make is longer than what came in: it says more and counts as full. Else prove '..UptoSaid'. A law counts once. -/
mutual
def uptoBulk {H : Type} : DataW H → Nat
  | .lit (.string bytes) => bytes.length + 1
  | .lit _ => 1
  | .nil => 1
  | .ptr d => uptoBulk d + 1
  | .slice elems spare => uptoBulkAll elems + uptoBulkAll spare + 1
  | .agg parts => uptoBulkAll parts + 1
  | .iface _ d => uptoBulk d + 1
  | .map entries => uptoBulkEntries entries + 1
  | .held _ => 1
def uptoBulkAll {H : Type} : List (DataW H) → Nat
  | [] => 0
  | d :: r => uptoBulk d + uptoBulkAll r
def uptoBulkEntries {H : Type} : List (Lit × DataW H) → Nat
  | [] => 0
  | x :: r => uptoBulkEntry x + uptoBulkEntries r
def uptoBulkEntry {H : Type} : Lit × DataW H → Nat
  | (.string bytes, d) => bytes.length + uptoBulk d + 1
  | (_, d) => uptoBulk d + 1
 end
def uptoSmall : (H : Type) → List (DataW H) → Bool := fun _ ds => decide (uptoBulkAll ds ≤ 1048576)
def OpenSpec.upto (s : _root_.Go.ChangeSpec) : _root_.Go.OpenSpec := { _root_.Go.OpenSpec.ofChange s with cond := some uptoSmall }

/-- 'precentorlaw21.TurnKnown', WHERE WHAT IT READS IS OF BULK AT MOST 1048576: true; the input reads as it did. -/
def turnKnownUptoRow : OpenClaim := { program := "ytchmlbjjadlleaa", sum := "55020e7787f5c1f01c192db806118c3c54225e3bab569b9436fd064faadbf27f", func := "precentor/precentorlaw21.TurnKnown", spec := "turnKnown", apart := false, narrowed := true }
def TurnKnownUptoSaid : Prop := turnKnownUptoRow.holds Try.pinned (OpenSpec.upto turnKnownSpec)

/-- 'precentorlaw21.TurnKeeps', WHERE WHAT IT READS IS OF BULK AT MOST 1048576: true; the input reads as it did. -/
def turnKeepsUptoRow : OpenClaim := { program := "ytchmlbjjadlleaa", sum := "55020e7787f5c1f01c192db806118c3c54225e3bab569b9436fd064faadbf27f", func := "precentor/precentorlaw21.TurnKeeps", spec := "turnKeeps", apart := false, narrowed := true }
def TurnKeepsUptoSaid : Prop := turnKeepsUptoRow.holds Try.pinned (OpenSpec.upto turnKeepsSpec)

/-- 'precentorlaw21.TurnTells', WHERE WHAT IT READS IS OF BULK AT MOST 1048576: true; the input reads as it did. -/
def turnTellsUptoRow : OpenClaim := { program := "ytchmlbjjadlleaa", sum := "55020e7787f5c1f01c192db806118c3c54225e3bab569b9436fd064faadbf27f", func := "precentor/precentorlaw21.TurnTells", spec := "turnTells", inPlace := ["math.Float64bits"], apart := false, narrowed := true }
def TurnTellsUptoSaid : Prop := turnTellsUptoRow.holds Try.pinned (OpenSpec.upto turnTellsSpec)

/-- 'precentorlaw21.TurnWaits', WHERE WHAT IT READS IS OF BULK AT MOST 1048576: true; the input reads as it did. -/
def turnWaitsUptoRow : OpenClaim := { program := "ytchmlbjjadlleaa", sum := "55020e7787f5c1f01c192db806118c3c54225e3bab569b9436fd064faadbf27f", func := "precentor/precentorlaw21.TurnWaits", spec := "turnWaits", apart := false, narrowed := true }
def TurnWaitsUptoSaid : Prop := turnWaitsUptoRow.holds Try.pinned (OpenSpec.upto turnWaitsSpec)

end Rows
end Go.Proofs.Ytchmlbjjadlleaa
