/-
  No cell of these rows narrows 'for every input' (looked for: loops, veiled, ifaces, maps, wideKeys, modest, calm, conditions, laid).
  DERIVED. THE GIVEN ROWS OF THIS SEAT. 3 by the template 'for every input the law returns true; each argument reads behind the call as it read before'; 0 by the template 'total and deterministic' (their statements: YtbpbdigehfkjjaaTotals.lean).
  GIVEN WITH THE SEED: the statements are not yours to turn. If you find one false, say at which input.
  Laid BY PROGRAM, IN A SANDBOX (cutbox-rows.mjs): the forced cells as the released guide's own fill.sh prints them over the translation d75129c957a55c60… (all of the seat's roots in one cut). By AI agents, Wed Nov 11 2026. No macro, syntax, notation, axiom, sorry.
-/
import Derived.Test.YtbpbdigehfkjjaaChecked
import GoSem.Claim
import GoSem.ClaimJoined
import GoSem.ClaimMapViews
import Derived.JoinedTies
import Derived.KernelRfl
namespace Go.Proofs.Ytbpbdigehfkjjaa
/- THE CELL 'sum', in the pinned program and in every row, IS THE sha256 OF THE DUMP (.gsa) THAT YtbpbdigehfkjjaaProg.lean LOADS. Nothing in Lean hashes anything: it is a label: what it is worth is what the hold of that sum in a sandbox is worth. -/
noncomputable def Try.pinned : Pinned := { name := "ytbpbdigehfkjjaa", sum := "d75129c957a55c6047d7332b8730c6f32478836ed14b41d512a2ac8f5dee1c80", checked := Try.checked }
namespace Rows
def none {H : Type} : Left H := { results := [], args := [] }

/-- 'precentorlaw16.HoldOrder': WHATEVER THE INPUT: true; the input reads as it did. -/
def holdOrderSpec : ChangeSpec := { name := "holdOrder", fn := fun _ => fun
  | [d1, d2] => { results := [.lit (.bool true)], args := [d1, d2] }
  | _ => none }
def holdOrderRow : OpenClaim := { program := "ytbpbdigehfkjjaa", sum := "d75129c957a55c6047d7332b8730c6f32478836ed14b41d512a2ac8f5dee1c80", func := "precentor/precentorlaw16.HoldOrder", spec := "holdOrder", apart := false }
def HoldOrderSaid : Prop := holdOrderRow.holds Try.pinned (OpenSpec.ofChange holdOrderSpec)

/-- ITS FALSE NEIGHBOUR: 'it returns false'. Refute it at one input. -/
def holdOrderWrong : ChangeSpec := { name := "holdOrder", fn := fun _ => fun
  | [d1, d2] => { results := [.lit (.bool false)], args := [d1, d2] }
  | _ => none }
def HoldOrderWrongFalsely : Prop := holdOrderRow.holds Try.pinned (OpenSpec.ofChange holdOrderWrong)

/-- 'precentorlaw16.HoldKeeps': WHATEVER THE INPUT: true; the input reads as it did. -/
def holdKeepsSpec : ChangeSpec := { name := "holdKeeps", fn := fun _ => fun
  | [d1, d2] => { results := [.lit (.bool true)], args := [d1, d2] }
  | _ => none }
def holdKeepsRow : OpenClaim := { program := "ytbpbdigehfkjjaa", sum := "d75129c957a55c6047d7332b8730c6f32478836ed14b41d512a2ac8f5dee1c80", func := "precentor/precentorlaw16.HoldKeeps", spec := "holdKeeps", inPlace := ["math.Float64bits", "math.Float64frombits"], apart := false }
def HoldKeepsSaid : Prop := holdKeepsRow.holds Try.pinned (OpenSpec.ofChange holdKeepsSpec)

/-- ITS FALSE NEIGHBOUR: 'it returns false'. Refute it at one input. -/
def holdKeepsWrong : ChangeSpec := { name := "holdKeeps", fn := fun _ => fun
  | [d1, d2] => { results := [.lit (.bool false)], args := [d1, d2] }
  | _ => none }
def HoldKeepsWrongFalsely : Prop := holdKeepsRow.holds Try.pinned (OpenSpec.ofChange holdKeepsWrong)

/-- 'precentorlaw16.HoldTells': WHATEVER THE INPUT: true; the input reads as it did. -/
def holdTellsSpec : ChangeSpec := { name := "holdTells", fn := fun _ => fun
  | [d1, d2, d3] => { results := [.lit (.bool true)], args := [d1, d2, d3] }
  | _ => none }
def holdTellsRow : OpenClaim := { program := "ytbpbdigehfkjjaa", sum := "d75129c957a55c6047d7332b8730c6f32478836ed14b41d512a2ac8f5dee1c80", func := "precentor/precentorlaw16.HoldTells", spec := "holdTells", inPlace := ["math.Float64bits", "math.Float64frombits"], apart := false }
def HoldTellsSaid : Prop := holdTellsRow.holds Try.pinned (OpenSpec.ofChange holdTellsSpec)

/-- ITS FALSE NEIGHBOUR: 'it returns false'. Refute it at one input. -/
def holdTellsWrong : ChangeSpec := { name := "holdTells", fn := fun _ => fun
  | [d1, d2, d3] => { results := [.lit (.bool false)], args := [d1, d2, d3] }
  | _ => none }
def HoldTellsWrongFalsely : Prop := holdTellsRow.holds Try.pinned (OpenSpec.ofChange holdTellsWrong)

/- THE SECOND FORM. 'bulk': how many values and letters a reading holds, each counted each time it is reached (what is shared counts as often as it is met; a slice's spare places count too). A statement '..UptoSaid' is the law's where the arguments, and the package variables that the reading takes, are together of bulk at most 1048576: NARROWER than '..Said'. Prove '..Said' where nothing that the law and all that it calls make is longer than what came in: it says more and counts as full. Else prove '..UptoSaid'. A law counts once. -/
mutual
def uptoBulk {H : Type} : DataW H → Nat
  | .lit (.string bytes) => bytes.length + 1
  | .lit _ => 1
  | .nil => 1
  | .ptr d => uptoBulk d + 1
  | .slice elems spare => uptoBulkAll elems + uptoBulkAll spare + 1
  | .agg parts => uptoBulkAll parts + 1
  | .iface _ d => uptoBulk d + 1
  | .map entries => uptoBulkEntries entries + 1
  | .held _ => 1
def uptoBulkAll {H : Type} : List (DataW H) → Nat
  | [] => 0
  | d :: r => uptoBulk d + uptoBulkAll r
def uptoBulkEntries {H : Type} : List (Lit × DataW H) → Nat
  | [] => 0
  | x :: r => uptoBulkEntry x + uptoBulkEntries r
def uptoBulkEntry {H : Type} : Lit × DataW H → Nat
  | (.string bytes, d) => bytes.length + uptoBulk d + 1
  | (_, d) => uptoBulk d + 1
 end
def uptoSmall : (H : Type) → List (DataW H) → Bool := fun _ ds => decide (uptoBulkAll ds ≤ 1048576)
def OpenSpec.upto (s : _root_.Go.ChangeSpec) : _root_.Go.OpenSpec := { _root_.Go.OpenSpec.ofChange s with cond := some uptoSmall }

/-- 'precentorlaw16.HoldOrder', WHERE WHAT IT READS IS OF BULK AT MOST 1048576: true; the input reads as it did. -/
def holdOrderUptoRow : OpenClaim := { program := "ytbpbdigehfkjjaa", sum := "d75129c957a55c6047d7332b8730c6f32478836ed14b41d512a2ac8f5dee1c80", func := "precentor/precentorlaw16.HoldOrder", spec := "holdOrder", apart := false, narrowed := true }
def HoldOrderUptoSaid : Prop := holdOrderUptoRow.holds Try.pinned (OpenSpec.upto holdOrderSpec)

/-- 'precentorlaw16.HoldKeeps', WHERE WHAT IT READS IS OF BULK AT MOST 1048576: true; the input reads as it did. -/
def holdKeepsUptoRow : OpenClaim := { program := "ytbpbdigehfkjjaa", sum := "d75129c957a55c6047d7332b8730c6f32478836ed14b41d512a2ac8f5dee1c80", func := "precentor/precentorlaw16.HoldKeeps", spec := "holdKeeps", inPlace := ["math.Float64bits", "math.Float64frombits"], apart := false, narrowed := true }
def HoldKeepsUptoSaid : Prop := holdKeepsUptoRow.holds Try.pinned (OpenSpec.upto holdKeepsSpec)

/-- 'precentorlaw16.HoldTells', WHERE WHAT IT READS IS OF BULK AT MOST 1048576: true; the input reads as it did. -/
def holdTellsUptoRow : OpenClaim := { program := "ytbpbdigehfkjjaa", sum := "d75129c957a55c6047d7332b8730c6f32478836ed14b41d512a2ac8f5dee1c80", func := "precentor/precentorlaw16.HoldTells", spec := "holdTells", inPlace := ["math.Float64bits", "math.Float64frombits"], apart := false, narrowed := true }
def HoldTellsUptoSaid : Prop := holdTellsUptoRow.holds Try.pinned (OpenSpec.upto holdTellsSpec)

end Rows
end Go.Proofs.Ytbpbdigehfkjjaa
