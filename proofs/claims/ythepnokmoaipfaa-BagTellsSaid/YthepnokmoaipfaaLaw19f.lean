/-
  Law BagTells: what its arguments are.
-/
import Derived.Test.YthepnokmoaipfaaLaw19e
import Derived.Test.YthepnokmoaipfaaABProg
import Derived.WalkKit
set_option linter.unusedVariables false
set_option linter.unusedSimpArgs false
namespace Go.Proofs.Ythepnokmoaipfaa
open Go.Ab Go.ChangeShapes Go.WideShapes Go.ChangeAt Go.RowKit Go.Deep

theorem reads_dgrams {P : Program} {t e b u i : TypeId} (ht : P.underlying t = some (.slice e)) (hc : P.cellsOf e = 3) (hf : ∃ fs, P.underlying e = some (.struct fs) ∧ ∀ k, k < ([(i, 0, 1), (i, 1, 1), (b, 2, 1)] : List (TypeId × Nat × Nat)).length → ∃ f, fs[k]? = some f ∧ ([(i, 0, 1), (i, 1, 1), (b, 2, 1)] : List (TypeId × Nat × Nat))[k]? = some (f.type, f.offset, P.cellsOf f.type))
    (hi : P.underlying i = some (.int .i64)) (hb : P.underlying b = some (.slice u)) (hu : P.underlying u = some (.int .u8)) (hc1 : P.cellsOf u = 1) : Reads P t fun h a => ∃ ds, ArgD h a ds := by
  intro H enc W b0 base v d ps hval hd
  obtain ⟨xs, q1, q2, q3, _⟩ := reads_slice dgA (Good := fun d => d.bytes.length < 2 ^ 63) ht hc (fun {H} enc w hw0 base n cs y hl hy => by
    obtain ⟨_, hx⟩ := read_struct _ hf hy
    match cs, hl with
    | [a0, a1, a2], _ =>
      obtain ⟨n0, y0, h0⟩ := hx 0 _ _ _ rfl
      obtain ⟨n1, y1, h1⟩ := hx 1 _ _ _ rfl
      obtain ⟨n2, y2, h2⟩ := hx 2 _ _ _ rfl
      obtain ⟨x0, e0, _⟩ := read_int hi (by simpa using h0) w.heap.size
      obtain ⟨x1, e1, _⟩ := read_int hi (by simpa using h1) w.heap.size
      obtain ⟨v2, l, e2, s2, k2⟩ := read_bytes hb hu hc1 hw0 (by simpa using h2)
      cases e2
      exact ⟨⟨x0, x1, l⟩, ⟨_, by simp [ofVs, e0, e1], s2⟩, k2⟩) enc W b0 base v d ps hval hd
  exact ⟨xs, q1, q2, q3⟩

theorem reads22 : Reads Try.prog 22 fun h a => ∃ ds, ArgD h a ds :=
  reads_dgrams (e := 28) (b := 26) (u := 5) (i := 3) Try.underlying22 (by kernel_rfl) ⟨_, Try.underlying28, fun k hk => match k, hk with
    | 0, _ => ⟨_, rfl, by kernel_rfl⟩
    | 1, _ => ⟨_, rfl, by kernel_rfl⟩
    | 2, _ => ⟨_, rfl, by kernel_rfl⟩⟩ Try.underlying3 Try.underlying26 Try.underlying5 (by kernel_rfl)
end Go.Proofs.Ythepnokmoaipfaa
