/-
  No cell of these rows narrows 'for every input' (looked for: loops, veiled, ifaces, maps, wideKeys, modest, calm, conditions, laid).
  DERIVED. THE GIVEN ROWS OF THIS SEAT. 12 by the template 'for every input the law returns true; each argument reads behind the call as it read before'; 0 by the template 'total and deterministic' (their statements: YtckkngnllhaojaaTotals.lean).
  GIVEN WITH THE SEED: the statements are not yours to turn. If you find one false, say at which input.
  Laid BY PROGRAM, IN A SANDBOX (cutbox-rows.mjs): the forced cells as the released guide's own fill.sh prints them over the translation 81a7a66bf6d83396… (all of the seat's roots in one cut). By AI agents, Wed Nov 11 2026. No macro, syntax, notation, axiom, sorry.
-/
import Derived.Test.YtckkngnllhaojaaChecked
import GoSem.Claim
import GoSem.ClaimJoined
import GoSem.ClaimMapViews
import Derived.JoinedTies
import Derived.KernelRfl
namespace Go.Proofs.Ytckkngnllhaojaa
/- THE CELL 'sum', in the pinned program and in every row, IS THE sha256 OF THE DUMP (.gsa) THAT YtckkngnllhaojaaProg.lean LOADS. Nothing in Lean hashes anything: it is a label: what it is worth is what the hold of that sum in a sandbox is worth. -/
noncomputable def Try.pinned : Pinned := { name := "ytckkngnllhaojaa", sum := "81a7a66bf6d8339691469ecd65a1f3440d6fc70ae0e3e14f5140fb5f312cae5d", checked := Try.checked }
namespace Rows
def none {H : Type} : Left H := { results := [], args := [] }

/-- 'precentorlaw19.BagKnown': WHATEVER THE INPUT: true; the input reads as it did. -/
def bagKnownSpec : ChangeSpec := { name := "bagKnown", fn := fun _ => fun
  | [] => { results := [.lit (.bool true)], args := [] }
  | _ => none }
def bagKnownRow : OpenClaim := { program := "ytckkngnllhaojaa", sum := "81a7a66bf6d8339691469ecd65a1f3440d6fc70ae0e3e14f5140fb5f312cae5d", func := "precentor/precentorlaw19.BagKnown", spec := "bagKnown", apart := false }
def BagKnownSaid : Prop := bagKnownRow.holds Try.pinned (OpenSpec.ofChange bagKnownSpec)

/-- ITS FALSE NEIGHBOUR: 'it returns false'. Refute it at one input. -/
def bagKnownWrong : ChangeSpec := { name := "bagKnown", fn := fun _ => fun
  | [] => { results := [.lit (.bool false)], args := [] }
  | _ => none }
def BagKnownWrongFalsely : Prop := bagKnownRow.holds Try.pinned (OpenSpec.ofChange bagKnownWrong)

/-- 'precentorlaw19.BagTells': WHATEVER THE INPUT: true; the input reads as it did. -/
def bagTellsSpec : ChangeSpec := { name := "bagTells", fn := fun _ => fun
  | [d1, d2] => { results := [.lit (.bool true)], args := [d1, d2] }
  | _ => none }
def bagTellsRow : OpenClaim := { program := "ytckkngnllhaojaa", sum := "81a7a66bf6d8339691469ecd65a1f3440d6fc70ae0e3e14f5140fb5f312cae5d", func := "precentor/precentorlaw19.BagTells", spec := "bagTells", apart := false }
def BagTellsSaid : Prop := bagTellsRow.holds Try.pinned (OpenSpec.ofChange bagTellsSpec)

/-- ITS FALSE NEIGHBOUR: 'it returns false'. Refute it at one input. -/
def bagTellsWrong : ChangeSpec := { name := "bagTells", fn := fun _ => fun
  | [d1, d2] => { results := [.lit (.bool false)], args := [d1, d2] }
  | _ => none }
def BagTellsWrongFalsely : Prop := bagTellsRow.holds Try.pinned (OpenSpec.ofChange bagTellsWrong)

/-- 'precentorlaw19.BagOwn': WHATEVER THE INPUT: true; the input reads as it did. -/
def bagOwnSpec : ChangeSpec := { name := "bagOwn", fn := fun _ => fun
  | [d1, d2] => { results := [.lit (.bool true)], args := [d1, d2] }
  | _ => none }
def bagOwnRow : OpenClaim := { program := "ytckkngnllhaojaa", sum := "81a7a66bf6d8339691469ecd65a1f3440d6fc70ae0e3e14f5140fb5f312cae5d", func := "precentor/precentorlaw19.BagOwn", spec := "bagOwn", apart := false }
def BagOwnSaid : Prop := bagOwnRow.holds Try.pinned (OpenSpec.ofChange bagOwnSpec)

/-- ITS FALSE NEIGHBOUR: 'it returns false'. Refute it at one input. -/
def bagOwnWrong : ChangeSpec := { name := "bagOwn", fn := fun _ => fun
  | [d1, d2] => { results := [.lit (.bool false)], args := [d1, d2] }
  | _ => none }
def BagOwnWrongFalsely : Prop := bagOwnRow.holds Try.pinned (OpenSpec.ofChange bagOwnWrong)

/-- 'precentorlaw19.BagOrder': WHATEVER THE INPUT: true; the input reads as it did. -/
def bagOrderSpec : ChangeSpec := { name := "bagOrder", fn := fun _ => fun
  | [d] => { results := [.lit (.bool true)], args := [d] }
  | _ => none }
def bagOrderRow : OpenClaim := { program := "ytckkngnllhaojaa", sum := "81a7a66bf6d8339691469ecd65a1f3440d6fc70ae0e3e14f5140fb5f312cae5d", func := "precentor/precentorlaw19.BagOrder", spec := "bagOrder", apart := false }
def BagOrderSaid : Prop := bagOrderRow.holds Try.pinned (OpenSpec.ofChange bagOrderSpec)

/-- ITS FALSE NEIGHBOUR: 'it returns false'. Refute it at one input. -/
def bagOrderWrong : ChangeSpec := { name := "bagOrder", fn := fun _ => fun
  | [d] => { results := [.lit (.bool false)], args := [d] }
  | _ => none }
def BagOrderWrongFalsely : Prop := bagOrderRow.holds Try.pinned (OpenSpec.ofChange bagOrderWrong)

/-- 'precentorlaw15.ClockKnown': WHATEVER THE INPUT: true; the input reads as it did. -/
def clockKnownSpec : ChangeSpec := { name := "clockKnown", fn := fun _ => fun
  | [] => { results := [.lit (.bool true)], args := [] }
  | _ => none }
def clockKnownRow : OpenClaim := { program := "ytckkngnllhaojaa", sum := "81a7a66bf6d8339691469ecd65a1f3440d6fc70ae0e3e14f5140fb5f312cae5d", func := "precentor/precentorlaw15.ClockKnown", spec := "clockKnown", apart := false }
def ClockKnownSaid : Prop := clockKnownRow.holds Try.pinned (OpenSpec.ofChange clockKnownSpec)

/-- ITS FALSE NEIGHBOUR: 'it returns false'. Refute it at one input. -/
def clockKnownWrong : ChangeSpec := { name := "clockKnown", fn := fun _ => fun
  | [] => { results := [.lit (.bool false)], args := [] }
  | _ => none }
def ClockKnownWrongFalsely : Prop := clockKnownRow.holds Try.pinned (OpenSpec.ofChange clockKnownWrong)

/-- 'precentorlaw15.ClockTells': WHATEVER THE INPUT: true; the input reads as it did. -/
def clockTellsSpec : ChangeSpec := { name := "clockTells", fn := fun _ => fun
  | [d1, d2] => { results := [.lit (.bool true)], args := [d1, d2] }
  | _ => none }
def clockTellsRow : OpenClaim := { program := "ytckkngnllhaojaa", sum := "81a7a66bf6d8339691469ecd65a1f3440d6fc70ae0e3e14f5140fb5f312cae5d", func := "precentor/precentorlaw15.ClockTells", spec := "clockTells", apart := false }
def ClockTellsSaid : Prop := clockTellsRow.holds Try.pinned (OpenSpec.ofChange clockTellsSpec)

/-- ITS FALSE NEIGHBOUR: 'it returns false'. Refute it at one input. -/
def clockTellsWrong : ChangeSpec := { name := "clockTells", fn := fun _ => fun
  | [d1, d2] => { results := [.lit (.bool false)], args := [d1, d2] }
  | _ => none }
def ClockTellsWrongFalsely : Prop := clockTellsRow.holds Try.pinned (OpenSpec.ofChange clockTellsWrong)

/-- 'precentorlaw15.ClockValue': WHATEVER THE INPUT: true; the input reads as it did. -/
def clockValueSpec : ChangeSpec := { name := "clockValue", fn := fun _ => fun
  | [d1, d2] => { results := [.lit (.bool true)], args := [d1, d2] }
  | _ => none }
def clockValueRow : OpenClaim := { program := "ytckkngnllhaojaa", sum := "81a7a66bf6d8339691469ecd65a1f3440d6fc70ae0e3e14f5140fb5f312cae5d", func := "precentor/precentorlaw15.ClockValue", spec := "clockValue", apart := false }
def ClockValueSaid : Prop := clockValueRow.holds Try.pinned (OpenSpec.ofChange clockValueSpec)

/-- ITS FALSE NEIGHBOUR: 'it returns false'. Refute it at one input. -/
def clockValueWrong : ChangeSpec := { name := "clockValue", fn := fun _ => fun
  | [d1, d2] => { results := [.lit (.bool false)], args := [d1, d2] }
  | _ => none }
def ClockValueWrongFalsely : Prop := clockValueRow.holds Try.pinned (OpenSpec.ofChange clockValueWrong)

/-- 'precentorlaw15.ClockCounts': WHATEVER THE INPUT: true; the input reads as it did. -/
def clockCountsSpec : ChangeSpec := { name := "clockCounts", fn := fun _ => fun
  | [d] => { results := [.lit (.bool true)], args := [d] }
  | _ => none }
def clockCountsRow : OpenClaim := { program := "ytckkngnllhaojaa", sum := "81a7a66bf6d8339691469ecd65a1f3440d6fc70ae0e3e14f5140fb5f312cae5d", func := "precentor/precentorlaw15.ClockCounts", spec := "clockCounts", apart := false }
def ClockCountsSaid : Prop := clockCountsRow.holds Try.pinned (OpenSpec.ofChange clockCountsSpec)

/-- ITS FALSE NEIGHBOUR: 'it returns false'. Refute it at one input. -/
def clockCountsWrong : ChangeSpec := { name := "clockCounts", fn := fun _ => fun
  | [d] => { results := [.lit (.bool false)], args := [d] }
  | _ => none }
def ClockCountsWrongFalsely : Prop := clockCountsRow.holds Try.pinned (OpenSpec.ofChange clockCountsWrong)

/-- 'precentorlaw21.TurnKnown': WHATEVER THE INPUT: true; the input reads as it did. -/
def turnKnownSpec : ChangeSpec := { name := "turnKnown", fn := fun _ => fun
  | [] => { results := [.lit (.bool true)], args := [] }
  | _ => none }
def turnKnownRow : OpenClaim := { program := "ytckkngnllhaojaa", sum := "81a7a66bf6d8339691469ecd65a1f3440d6fc70ae0e3e14f5140fb5f312cae5d", func := "precentor/precentorlaw21.TurnKnown", spec := "turnKnown", apart := false }
def TurnKnownSaid : Prop := turnKnownRow.holds Try.pinned (OpenSpec.ofChange turnKnownSpec)

/-- ITS FALSE NEIGHBOUR: 'it returns false'. Refute it at one input. -/
def turnKnownWrong : ChangeSpec := { name := "turnKnown", fn := fun _ => fun
  | [] => { results := [.lit (.bool false)], args := [] }
  | _ => none }
def TurnKnownWrongFalsely : Prop := turnKnownRow.holds Try.pinned (OpenSpec.ofChange turnKnownWrong)

/-- 'precentorlaw21.TurnKeeps': WHATEVER THE INPUT: true; the input reads as it did. -/
def turnKeepsSpec : ChangeSpec := { name := "turnKeeps", fn := fun _ => fun
  | [d] => { results := [.lit (.bool true)], args := [d] }
  | _ => none }
def turnKeepsRow : OpenClaim := { program := "ytckkngnllhaojaa", sum := "81a7a66bf6d8339691469ecd65a1f3440d6fc70ae0e3e14f5140fb5f312cae5d", func := "precentor/precentorlaw21.TurnKeeps", spec := "turnKeeps", apart := false }
def TurnKeepsSaid : Prop := turnKeepsRow.holds Try.pinned (OpenSpec.ofChange turnKeepsSpec)

/-- ITS FALSE NEIGHBOUR: 'it returns false'. Refute it at one input. -/
def turnKeepsWrong : ChangeSpec := { name := "turnKeeps", fn := fun _ => fun
  | [d] => { results := [.lit (.bool false)], args := [d] }
  | _ => none }
def TurnKeepsWrongFalsely : Prop := turnKeepsRow.holds Try.pinned (OpenSpec.ofChange turnKeepsWrong)

/-- 'precentorlaw21.TurnTells': WHATEVER THE INPUT: true; the input reads as it did. -/
def turnTellsSpec : ChangeSpec := { name := "turnTells", fn := fun _ => fun
  | [d1, d2] => { results := [.lit (.bool true)], args := [d1, d2] }
  | _ => none }
def turnTellsRow : OpenClaim := { program := "ytckkngnllhaojaa", sum := "81a7a66bf6d8339691469ecd65a1f3440d6fc70ae0e3e14f5140fb5f312cae5d", func := "precentor/precentorlaw21.TurnTells", spec := "turnTells", inPlace := ["math.Float64bits"], apart := false }
def TurnTellsSaid : Prop := turnTellsRow.holds Try.pinned (OpenSpec.ofChange turnTellsSpec)

/-- ITS FALSE NEIGHBOUR: 'it returns false'. Refute it at one input. -/
def turnTellsWrong : ChangeSpec := { name := "turnTells", fn := fun _ => fun
  | [d1, d2] => { results := [.lit (.bool false)], args := [d1, d2] }
  | _ => none }
def TurnTellsWrongFalsely : Prop := turnTellsRow.holds Try.pinned (OpenSpec.ofChange turnTellsWrong)

/-- 'precentorlaw21.TurnWaits': WHATEVER THE INPUT: true; the input reads as it did. -/
def turnWaitsSpec : ChangeSpec := { name := "turnWaits", fn := fun _ => fun
  | [d1, d2] => { results := [.lit (.bool true)], args := [d1, d2] }
  | _ => none }
def turnWaitsRow : OpenClaim := { program := "ytckkngnllhaojaa", sum := "81a7a66bf6d8339691469ecd65a1f3440d6fc70ae0e3e14f5140fb5f312cae5d", func := "precentor/precentorlaw21.TurnWaits", spec := "turnWaits", apart := false }
def TurnWaitsSaid : Prop := turnWaitsRow.holds Try.pinned (OpenSpec.ofChange turnWaitsSpec)

/-- ITS FALSE NEIGHBOUR: 'it returns false'. Refute it at one input. -/
def turnWaitsWrong : ChangeSpec := { name := "turnWaits", fn := fun _ => fun
  | [d1, d2] => { results := [.lit (.bool false)], args := [d1, d2] }
  | _ => none }
def TurnWaitsWrongFalsely : Prop := turnWaitsRow.holds Try.pinned (OpenSpec.ofChange turnWaitsWrong)

/- THE SECOND FORM. 'bulk': how many values and letters a reading holds, each counted each time it is reached (what is shared counts as often as it is met; a slice's spare places count too). A statement '..UptoSaid' is the law's where the arguments, and the package variables that the reading takes, are together of bulk at most 1048576: NARROWER than '..Said'. Prove '..Said' where nothing that the law and all that it calls make is longer than what came in: it says more and counts as full. Else prove '..UptoSaid'. A law counts once. -/
mutual
def uptoBulk {H : Type} : DataW H → Nat
  | .lit (.string bytes) => bytes.length + 1
  | .lit _ => 1
  | .nil => 1
  | .ptr d => uptoBulk d + 1
  | .slice elems spare => uptoBulkAll elems + uptoBulkAll spare + 1
  | .agg parts => uptoBulkAll parts + 1
  | .iface _ d => uptoBulk d + 1
  | .map entries => uptoBulkEntries entries + 1
  | .held _ => 1
def uptoBulkAll {H : Type} : List (DataW H) → Nat
  | [] => 0
  | d :: r => uptoBulk d + uptoBulkAll r
def uptoBulkEntries {H : Type} : List (Lit × DataW H) → Nat
  | [] => 0
  | x :: r => uptoBulkEntry x + uptoBulkEntries r
def uptoBulkEntry {H : Type} : Lit × DataW H → Nat
  | (.string bytes, d) => bytes.length + uptoBulk d + 1
  | (_, d) => uptoBulk d + 1
 end
def uptoSmall : (H : Type) → List (DataW H) → Bool := fun _ ds => decide (uptoBulkAll ds ≤ 1048576)
def OpenSpec.upto (s : _root_.Go.ChangeSpec) : _root_.Go.OpenSpec := { _root_.Go.OpenSpec.ofChange s with cond := some uptoSmall }

/-- 'precentorlaw19.BagKnown', WHERE WHAT IT READS IS OF BULK AT MOST 1048576: true; the input reads as it did. -/
def bagKnownUptoRow : OpenClaim := { program := "ytckkngnllhaojaa", sum := "81a7a66bf6d8339691469ecd65a1f3440d6fc70ae0e3e14f5140fb5f312cae5d", func := "precentor/precentorlaw19.BagKnown", spec := "bagKnown", apart := false, narrowed := true }
def BagKnownUptoSaid : Prop := bagKnownUptoRow.holds Try.pinned (OpenSpec.upto bagKnownSpec)

/-- 'precentorlaw19.BagTells', WHERE WHAT IT READS IS OF BULK AT MOST 1048576: true; the input reads as it did. -/
def bagTellsUptoRow : OpenClaim := { program := "ytckkngnllhaojaa", sum := "81a7a66bf6d8339691469ecd65a1f3440d6fc70ae0e3e14f5140fb5f312cae5d", func := "precentor/precentorlaw19.BagTells", spec := "bagTells", apart := false, narrowed := true }
def BagTellsUptoSaid : Prop := bagTellsUptoRow.holds Try.pinned (OpenSpec.upto bagTellsSpec)

/-- 'precentorlaw19.BagOwn', WHERE WHAT IT READS IS OF BULK AT MOST 1048576: true; the input reads as it did. -/
def bagOwnUptoRow : OpenClaim := { program := "ytckkngnllhaojaa", sum := "81a7a66bf6d8339691469ecd65a1f3440d6fc70ae0e3e14f5140fb5f312cae5d", func := "precentor/precentorlaw19.BagOwn", spec := "bagOwn", apart := false, narrowed := true }
def BagOwnUptoSaid : Prop := bagOwnUptoRow.holds Try.pinned (OpenSpec.upto bagOwnSpec)

/-- 'precentorlaw19.BagOrder', WHERE WHAT IT READS IS OF BULK AT MOST 1048576: true; the input reads as it did. -/
def bagOrderUptoRow : OpenClaim := { program := "ytckkngnllhaojaa", sum := "81a7a66bf6d8339691469ecd65a1f3440d6fc70ae0e3e14f5140fb5f312cae5d", func := "precentor/precentorlaw19.BagOrder", spec := "bagOrder", apart := false, narrowed := true }
def BagOrderUptoSaid : Prop := bagOrderUptoRow.holds Try.pinned (OpenSpec.upto bagOrderSpec)

/-- 'precentorlaw15.ClockKnown', WHERE WHAT IT READS IS OF BULK AT MOST 1048576: true; the input reads as it did. -/
def clockKnownUptoRow : OpenClaim := { program := "ytckkngnllhaojaa", sum := "81a7a66bf6d8339691469ecd65a1f3440d6fc70ae0e3e14f5140fb5f312cae5d", func := "precentor/precentorlaw15.ClockKnown", spec := "clockKnown", apart := false, narrowed := true }
def ClockKnownUptoSaid : Prop := clockKnownUptoRow.holds Try.pinned (OpenSpec.upto clockKnownSpec)

/-- 'precentorlaw15.ClockTells', WHERE WHAT IT READS IS OF BULK AT MOST 1048576: true; the input reads as it did. -/
def clockTellsUptoRow : OpenClaim := { program := "ytckkngnllhaojaa", sum := "81a7a66bf6d8339691469ecd65a1f3440d6fc70ae0e3e14f5140fb5f312cae5d", func := "precentor/precentorlaw15.ClockTells", spec := "clockTells", apart := false, narrowed := true }
def ClockTellsUptoSaid : Prop := clockTellsUptoRow.holds Try.pinned (OpenSpec.upto clockTellsSpec)

/-- 'precentorlaw15.ClockValue', WHERE WHAT IT READS IS OF BULK AT MOST 1048576: true; the input reads as it did. -/
def clockValueUptoRow : OpenClaim := { program := "ytckkngnllhaojaa", sum := "81a7a66bf6d8339691469ecd65a1f3440d6fc70ae0e3e14f5140fb5f312cae5d", func := "precentor/precentorlaw15.ClockValue", spec := "clockValue", apart := false, narrowed := true }
def ClockValueUptoSaid : Prop := clockValueUptoRow.holds Try.pinned (OpenSpec.upto clockValueSpec)

/-- 'precentorlaw15.ClockCounts', WHERE WHAT IT READS IS OF BULK AT MOST 1048576: true; the input reads as it did. -/
def clockCountsUptoRow : OpenClaim := { program := "ytckkngnllhaojaa", sum := "81a7a66bf6d8339691469ecd65a1f3440d6fc70ae0e3e14f5140fb5f312cae5d", func := "precentor/precentorlaw15.ClockCounts", spec := "clockCounts", apart := false, narrowed := true }
def ClockCountsUptoSaid : Prop := clockCountsUptoRow.holds Try.pinned (OpenSpec.upto clockCountsSpec)

/-- 'precentorlaw21.TurnKnown', WHERE WHAT IT READS IS OF BULK AT MOST 1048576: true; the input reads as it did. -/
def turnKnownUptoRow : OpenClaim := { program := "ytckkngnllhaojaa", sum := "81a7a66bf6d8339691469ecd65a1f3440d6fc70ae0e3e14f5140fb5f312cae5d", func := "precentor/precentorlaw21.TurnKnown", spec := "turnKnown", apart := false, narrowed := true }
def TurnKnownUptoSaid : Prop := turnKnownUptoRow.holds Try.pinned (OpenSpec.upto turnKnownSpec)

/-- 'precentorlaw21.TurnKeeps', WHERE WHAT IT READS IS OF BULK AT MOST 1048576: true; the input reads as it did. -/
def turnKeepsUptoRow : OpenClaim := { program := "ytckkngnllhaojaa", sum := "81a7a66bf6d8339691469ecd65a1f3440d6fc70ae0e3e14f5140fb5f312cae5d", func := "precentor/precentorlaw21.TurnKeeps", spec := "turnKeeps", apart := false, narrowed := true }
def TurnKeepsUptoSaid : Prop := turnKeepsUptoRow.holds Try.pinned (OpenSpec.upto turnKeepsSpec)

/-- 'precentorlaw21.TurnTells', WHERE WHAT IT READS IS OF BULK AT MOST 1048576: true; the input reads as it did. -/
def turnTellsUptoRow : OpenClaim := { program := "ytckkngnllhaojaa", sum := "81a7a66bf6d8339691469ecd65a1f3440d6fc70ae0e3e14f5140fb5f312cae5d", func := "precentor/precentorlaw21.TurnTells", spec := "turnTells", inPlace := ["math.Float64bits"], apart := false, narrowed := true }
def TurnTellsUptoSaid : Prop := turnTellsUptoRow.holds Try.pinned (OpenSpec.upto turnTellsSpec)

/-- 'precentorlaw21.TurnWaits', WHERE WHAT IT READS IS OF BULK AT MOST 1048576: true; the input reads as it did. -/
def turnWaitsUptoRow : OpenClaim := { program := "ytckkngnllhaojaa", sum := "81a7a66bf6d8339691469ecd65a1f3440d6fc70ae0e3e14f5140fb5f312cae5d", func := "precentor/precentorlaw21.TurnWaits", spec := "turnWaits", apart := false, narrowed := true }
def TurnWaitsUptoSaid : Prop := turnWaitsUptoRow.holds Try.pinned (OpenSpec.upto turnWaitsSpec)

end Rows
end Go.Proofs.Ytckkngnllhaojaa
