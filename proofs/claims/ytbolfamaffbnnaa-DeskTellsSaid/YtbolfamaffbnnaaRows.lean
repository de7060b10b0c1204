/-
  No cell of these rows narrows 'for every input' (looked for: loops, veiled, ifaces, maps, wideKeys, modest, calm, conditions, laid).
  DERIVED. THE GIVEN ROWS OF THIS SEAT. 4 by the template 'for every input the law returns true; each argument reads behind the call as it read before'; 0 by the template 'total and deterministic' (their statements: YtbolfamaffbnnaaTotals.lean).
  GIVEN WITH THE SEED: the statements are not yours to turn. If you find one false, say at which input.
  Laid BY PROGRAM, IN A SANDBOX (cutbox-rows.mjs): the forced cells as the released guide's own fill.sh prints them over the translation 84bd7399eb1114ce… (all of the seat's roots in one cut). By AI agents, Wed Nov 11 2026. No macro, syntax, notation, axiom, sorry.
-/
import Derived.Test.YtbolfamaffbnnaaChecked
import GoSem.Claim
import GoSem.ClaimJoined
import GoSem.ClaimMapViews
import Derived.JoinedTies
import Derived.KernelRfl
namespace Go.Proofs.Ytbolfamaffbnnaa
/- THE CELL 'sum', in the pinned program and in every row, IS THE sha256 OF THE DUMP (.gsa) THAT YtbolfamaffbnnaaProg.lean LOADS. Nothing in Lean hashes anything: it is a label: what it is worth is what the hold of that sum in a sandbox is worth. -/
noncomputable def Try.pinned : Pinned := { name := "ytbolfamaffbnnaa", sum := "84bd7399eb1114ce980419d33e783f9962c31ff661ae48a960f79f362c050af8", checked := Try.checked }
namespace Rows
def none {H : Type} : Left H := { results := [], args := [] }

/-- 'precentorlaw22.DeskKnown': WHATEVER THE INPUT: true; the input reads as it did. -/
def deskKnownSpec : ChangeSpec := { name := "deskKnown", fn := fun _ => fun
  | [] => { results := [.lit (.bool true)], args := [] }
  | _ => none }
def deskKnownRow : OpenClaim := { program := "ytbolfamaffbnnaa", sum := "84bd7399eb1114ce980419d33e783f9962c31ff661ae48a960f79f362c050af8", func := "precentor/precentorlaw22.DeskKnown", spec := "deskKnown", inPlace := ["math.Float64bits"], apart := false }
def DeskKnownSaid : Prop := deskKnownRow.holds Try.pinned (OpenSpec.ofChange deskKnownSpec)

/-- ITS FALSE NEIGHBOUR: 'it returns false'. Refute it at one input. -/
def deskKnownWrong : ChangeSpec := { name := "deskKnown", fn := fun _ => fun
  | [] => { results := [.lit (.bool false)], args := [] }
  | _ => none }
def DeskKnownWrongFalsely : Prop := deskKnownRow.holds Try.pinned (OpenSpec.ofChange deskKnownWrong)

/-- 'precentorlaw22.DeskOne': WHATEVER THE INPUT: true; the input reads as it did. -/
def deskOneSpec : ChangeSpec := { name := "deskOne", fn := fun _ => fun
  | [d] => { results := [.lit (.bool true)], args := [d] }
  | _ => none }
def deskOneRow : OpenClaim := { program := "ytbolfamaffbnnaa", sum := "84bd7399eb1114ce980419d33e783f9962c31ff661ae48a960f79f362c050af8", func := "precentor/precentorlaw22.DeskOne", spec := "deskOne", inPlace := ["math.Float64bits"], apart := false }
def DeskOneSaid : Prop := deskOneRow.holds Try.pinned (OpenSpec.ofChange deskOneSpec)

/-- ITS FALSE NEIGHBOUR: 'it returns false'. Refute it at one input. -/
def deskOneWrong : ChangeSpec := { name := "deskOne", fn := fun _ => fun
  | [d] => { results := [.lit (.bool false)], args := [d] }
  | _ => none }
def DeskOneWrongFalsely : Prop := deskOneRow.holds Try.pinned (OpenSpec.ofChange deskOneWrong)

/-- 'precentorlaw22.DeskTells': WHATEVER THE INPUT: true; the input reads as it did. -/
def deskTellsSpec : ChangeSpec := { name := "deskTells", fn := fun _ => fun
  | [d1, d2, d3] => { results := [.lit (.bool true)], args := [d1, d2, d3] }
  | _ => none }
def deskTellsRow : OpenClaim := { program := "ytbolfamaffbnnaa", sum := "84bd7399eb1114ce980419d33e783f9962c31ff661ae48a960f79f362c050af8", func := "precentor/precentorlaw22.DeskTells", spec := "deskTells", inPlace := ["math.Float64bits", "math.Float64frombits"], apart := false }
def DeskTellsSaid : Prop := deskTellsRow.holds Try.pinned (OpenSpec.ofChange deskTellsSpec)

/-- ITS FALSE NEIGHBOUR: 'it returns false'. Refute it at one input. -/
def deskTellsWrong : ChangeSpec := { name := "deskTells", fn := fun _ => fun
  | [d1, d2, d3] => { results := [.lit (.bool false)], args := [d1, d2, d3] }
  | _ => none }
def DeskTellsWrongFalsely : Prop := deskTellsRow.holds Try.pinned (OpenSpec.ofChange deskTellsWrong)

/-- 'precentorlaw22.DeskPolls': WHATEVER THE INPUT: true; the input reads as it did. -/
def deskPollsSpec : ChangeSpec := { name := "deskPolls", fn := fun _ => fun
  | [d] => { results := [.lit (.bool true)], args := [d] }
  | _ => none }
def deskPollsRow : OpenClaim := { program := "ytbolfamaffbnnaa", sum := "84bd7399eb1114ce980419d33e783f9962c31ff661ae48a960f79f362c050af8", func := "precentor/precentorlaw22.DeskPolls", spec := "deskPolls", inPlace := ["math.Float64bits", "math.Float64frombits"], apart := false }
def DeskPollsSaid : Prop := deskPollsRow.holds Try.pinned (OpenSpec.ofChange deskPollsSpec)

/-- ITS FALSE NEIGHBOUR: 'it returns false'. Refute it at one input. -/
def deskPollsWrong : ChangeSpec := { name := "deskPolls", fn := fun _ => fun
  | [d] => { results := [.lit (.bool false)], args := [d] }
  | _ => none }
def DeskPollsWrongFalsely : Prop := deskPollsRow.holds Try.pinned (OpenSpec.ofChange deskPollsWrong)

/- THE SECOND FORM. 'bulk': how many values and letters a reading holds, each counted each time it is reached (what is shared counts as often as it is met; a slice's spare places count too). A statement '..UptoSaid' is the law's where the arguments, and the package variables that the reading takes, are together of bulk at most 1048576: NARROWER than '..Said'. Prove '..Said' where nothing that the law and all that it calls make is longer than what came in: it says more and counts as full. Else prove '..UptoSaid'. A law counts once. -/
mutual
def uptoBulk {H : Type} : DataW H → Nat
  | .lit (.string bytes) => bytes.length + 1
  | .lit _ => 1
  | .nil => 1
  | .ptr d => uptoBulk d + 1
  | .slice elems spare => uptoBulkAll elems + uptoBulkAll spare + 1
  | .agg parts => uptoBulkAll parts + 1
  | .iface _ d => uptoBulk d + 1
  | .map entries => uptoBulkEntries entries + 1
  | .held _ => 1
def uptoBulkAll {H : Type} : List (DataW H) → Nat
  | [] => 0
  | d :: r => uptoBulk d + uptoBulkAll r
def uptoBulkEntries {H : Type} : List (Lit × DataW H) → Nat
  | [] => 0
  | x :: r => uptoBulkEntry x + uptoBulkEntries r
def uptoBulkEntry {H : Type} : Lit × DataW H → Nat
  | (.string bytes, d) => bytes.length + uptoBulk d + 1
  | (_, d) => uptoBulk d + 1
 end
def uptoSmall : (H : Type) → List (DataW H) → Bool := fun _ ds => decide (uptoBulkAll ds ≤ 1048576)
def OpenSpec.upto (s : _root_.Go.ChangeSpec) : _root_.Go.OpenSpec := { _root_.Go.OpenSpec.ofChange s with cond := some uptoSmall }

/-- 'precentorlaw22.DeskKnown', WHERE WHAT IT READS IS OF BULK AT MOST 1048576: true; the input reads as it did. -/
def deskKnownUptoRow : OpenClaim := { program := "ytbolfamaffbnnaa", sum := "84bd7399eb1114ce980419d33e783f9962c31ff661ae48a960f79f362c050af8", func := "precentor/precentorlaw22.DeskKnown", spec := "deskKnown", inPlace := ["math.Float64bits"], apart := false, narrowed := true }
def DeskKnownUptoSaid : Prop := deskKnownUptoRow.holds Try.pinned (OpenSpec.upto deskKnownSpec)

/-- 'precentorlaw22.DeskOne', WHERE WHAT IT READS IS OF BULK AT MOST 1048576: true; the input reads as it did. -/
def deskOneUptoRow : OpenClaim := { program := "ytbolfamaffbnnaa", sum := "84bd7399eb1114ce980419d33e783f9962c31ff661ae48a960f79f362c050af8", func := "precentor/precentorlaw22.DeskOne", spec := "deskOne", inPlace := ["math.Float64bits"], apart := false, narrowed := true }
def DeskOneUptoSaid : Prop := deskOneUptoRow.holds Try.pinned (OpenSpec.upto deskOneSpec)

/-- 'precentorlaw22.DeskTells', WHERE WHAT IT READS IS OF BULK AT MOST 1048576: true; the input reads as it did. -/
def deskTellsUptoRow : OpenClaim := { program := "ytbolfamaffbnnaa", sum := "84bd7399eb1114ce980419d33e783f9962c31ff661ae48a960f79f362c050af8", func := "precentor/precentorlaw22.DeskTells", spec := "deskTells", inPlace := ["math.Float64bits", "math.Float64frombits"], apart := false, narrowed := true }
def DeskTellsUptoSaid : Prop := deskTellsUptoRow.holds Try.pinned (OpenSpec.upto deskTellsSpec)

/-- 'precentorlaw22.DeskPolls', WHERE WHAT IT READS IS OF BULK AT MOST 1048576: true; the input reads as it did. -/
def deskPollsUptoRow : OpenClaim := { program := "ytbolfamaffbnnaa", sum := "84bd7399eb1114ce980419d33e783f9962c31ff661ae48a960f79f362c050af8", func := "precentor/precentorlaw22.DeskPolls", spec := "deskPolls", inPlace := ["math.Float64bits", "math.Float64frombits"], apart := false, narrowed := true }
def DeskPollsUptoSaid : Prop := deskPollsUptoRow.holds Try.pinned (OpenSpec.upto deskPollsSpec)

end Rows
end Go.Proofs.Ytbolfamaffbnnaa
