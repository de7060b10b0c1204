/-
  BagTells: the law returns true, whatever its arguments are. No condition: every argument that the statement lets in. (The abstract machine of YthepnokmoaipfaaABDef is reckoned by hand in the forms of YthepnokmoaipfaaABS; what it tells, the model does: YthepnokmoaipfaaABX.)
-/
import Derived.Test.YthepnokmoaipfaaRows
import Derived.Test.YthepnokmoaipfaaABProg
import Derived.Test.YthepnokmoaipfaaLaw19f
import Derived.Test.YthepnokmoaipfaaABRow
import Derived.WalkKit
import Derived.ProofKit
import Derived.OpenShut
set_option linter.unusedVariables false
namespace Go.Proofs.Ythepnokmoaipfaa.bagTells
open Go.ChangeShapes Go.WideShapes Go.ChangeAt Go.RowKit Go.Ab

theorem xok : XOk Try.prog noX := ok_noX
theorem only : OnlyKnown noX := only_noX
theorem cells3 : Try.prog.cellsOf 3 = 1 := by kernel_rfl

theorem read {P : Program} {X : XTab} {f : FuncId} (u3 : P.underlying 3 = some (.int .i64)) (c3 : P.cellsOf 3 = 1) (u36 : P.underlying 36 = some (.slice 3)) (g2 : Reads P 22 (fun h a => ∃ x, ArgD h a x))
    (con : ∀ (h : Heap) (a1 : AVal) (xs1 : List Int) (r1 : RawInts h a1 xs1) (a2 : AVal) (xs2 : List Dgram) (r2 : ArgD h a2 xs2), Tells (fun m => acallX P X m f [a1, a2] h) fun a _ => a = .bool true)
    {H : Type} {enc : TypeId × Value → H} (W : World) (base : Nat) (vs : List Value) (ds : List (DataW H)) (p : List MemPlace) (hv : ∀ (j : Nat) t v, ([36, 22] : List TypeId)[j]? = some t → vs[j]? = some v → Value.okWide P W .any base t v)
    (hA : DataW.TrodAll enc P W 0 (fun _ => true) true [36, 22] vs ds p) : Tells (fun m => acallX P X m f (ofVs W.heap.size vs) (Heap.ofW W)) fun a _ => a = .bool true := by
  obtain ⟨v1, vs1, d1, ds1, p1, q1, rfl, rfl, rfl, t1, hA⟩ := trodAll_cons hA
  obtain ⟨v2, vs2, d2, ds2, p2, q2, rfl, rfl, rfl, t2, hA⟩ := trodAll_cons hA
  obtain ⟨rfl, rfl, rfl⟩ := trodAll_nil hA
  have k1 := hv 0 _ _ rfl rfl
  have k2 := hv 1 _ _ rfl rfl
  obtain ⟨xs1, r1⟩ := arg_ints u36 u3 c3 k1 t1
  obtain ⟨xs2, r2⟩ := g2 _ _ _ _ _ _ _ k2 t2
  simp only [ofVs]
  exact con _ _ _ r1 _ _ r2

theorem lifted (os : Os) (started : os.Started) (H : Type) (enc : TypeId × Value → H) :
    ReturnsInHanded {} Try.checked os 4 .any (Rows.bagTellsSpec.pre6 enc Try.prog Try.f4 Rows.bagTellsRow.domain false) (Rows.bagTellsSpec.post enc Try.prog Try.f4 false true false false) :=
  lift_open (P := Try.prog) rfl own started (by kernel_rfl) Try.func4
    (ChangeSpec.witness6 (enc := enc) (C := Try.checked) false ⟨#[], #[.slice none 0 0, .slice none 0 0], []⟩ 8 (by kernel_rfl) (by kernel_rfl) (by kernel_rfl) (by kernel_rfl))
    follows slots xok rfl laid (ts := [36, 22]) (by kernel_rfl) (by kernel_rfl) rfl Try.underlying4 (fun ds hd => match ds, hd with
      | [_, _], _ => rfl) (read Try.underlying3 cells3 Try.underlying36 reads22 fun h a1 xs1 r1 a2 xs2 r2 => bagTells_ only rfl r1 r2)

theorem over : Rows.bagTellsRow.holds Try.pinned (OpenSpec.ofChange Rows.bagTellsSpec) :=
  OpenClaim.holds_of_wide 4 Try.f4 rfl rfl rfl rfl rfl rfl rfl ⟨rfl, rfl, rfl, rfl, rfl⟩ rfl rfl rfl rfl rfl (by kernel_rfl) Try.func4 (by kernel_rfl)
    (of_decide_eq_true (by kernel_rfl)) (by unfold Func.isWrapper; first | (rw [if_pos (by decide +kernel)]; kernel_rfl) | (rw [if_neg (by decide +kernel)]; exact ⟨rfl, rfl⟩))
    (fun os started H enc _ => lifted os started H enc)

theorem proved : Rows.BagTellsSaid := over
#print axioms proved
end Go.Proofs.Ythepnokmoaipfaa.bagTells
