/-
  TrapPlays: the law returns true, whatever its arguments are. No condition: every argument that the statement lets in. (The abstract machine of YtepdlgcoehpnbaaABDef is reckoned by hand in the forms of YtepdlgcoehpnbaaABS; what it tells, the model does: YtepdlgcoehpnbaaABX.)
-/
import Derived.Test.YtepdlgcoehpnbaaRows
import Derived.Test.YtepdlgcoehpnbaaABProg
import Derived.Test.YtepdlgcoehpnbaaPL8
import Derived.Test.YtepdlgcoehpnbaaABRow
import Derived.WalkKit
import Derived.ProofKit
import Derived.OpenShut
set_option linter.unusedVariables false
namespace Go.Proofs.Ytepdlgcoehpnbaa.trapPlays
open Go.ChangeShapes Go.WideShapes Go.ChangeAt Go.RowKit Go.Ab

theorem told : okTrue (acall Try.prog 60 F_precentorlaw1_known [] Heap.empty) = true := by kernel_rfl
theorem xok : XOk Try.prog (XTab.one F_precentorlaw1_known) := XOk.one follows slots told
theorem only : OnlyKnown (XTab.one F_precentorlaw1_known) := by
  intro f a h
  unfold XTab.one
  split
  · rename_i e; subst e; cases h
  · rfl
theorem cells3 : Try.prog.cellsOf 3 = 1 := by kernel_rfl

theorem read {P : Program} {X : XTab} {f : FuncId} (u3 : P.underlying 3 = some (.int .i64)) (c3 : P.cellsOf 3 = 1) (g1 : Reads P 29 (fun h a => ∃ x, RawSt h a x))
    (con : ∀ (h : Heap) (a1 : AVal) (xs1 : List (Int × Int)) (r1 : RawSt h a1 xs1), Tells (fun m => acallX P X m f [a1] h) fun a _ => a = .bool true)
    {H : Type} {enc : TypeId × Value → H} (W : World) (base : Nat) (vs : List Value) (ds : List (DataW H)) (p : List MemPlace) (hv : ∀ (j : Nat) t v, ([29] : List TypeId)[j]? = some t → vs[j]? = some v → Value.okWide P W .any base t v)
    (hA : DataW.TrodAll enc P W 0 (fun _ => true) true [29] vs ds p) : Tells (fun m => acallX P X m f (ofVs W.heap.size vs) (Heap.ofW W)) fun a _ => a = .bool true := by
  obtain ⟨v1, vs1, d1, ds1, p1, q1, rfl, rfl, rfl, t1, hA⟩ := trodAll_cons hA
  obtain ⟨rfl, rfl, rfl⟩ := trodAll_nil hA
  have k1 := hv 0 _ _ rfl rfl
  obtain ⟨xs1, r1⟩ := g1 _ _ _ _ _ _ _ k1 t1
  simp only [ofVs]
  exact con _ _ _ r1

theorem lifted (os : Os) (started : os.Started) (H : Type) (enc : TypeId × Value → H) :
    ReturnsInHanded {} Try.checked os 4 .any (Rows.trapPlaysSpec.pre6 enc Try.prog Try.f4 Rows.trapPlaysRow.domain false) (Rows.trapPlaysSpec.post enc Try.prog Try.f4 false true false false) :=
  lift_open (P := Try.prog) rfl own started (by kernel_rfl) Try.func4
    (ChangeSpec.witness6 (enc := enc) (C := Try.checked) false ⟨#[], #[.slice none 0 0], []⟩ 8 (by kernel_rfl) (by kernel_rfl) (by kernel_rfl) (by kernel_rfl))
    follows slots xok rfl laid (ts := [29]) (by kernel_rfl) (by kernel_rfl) rfl Try.underlying4 (fun ds hd => match ds, hd with
      | [_], _ => rfl) (read Try.underlying3 cells3 reads29 fun h a1 xs1 r1 => trapPlays_ only rfl r1)

theorem over : Rows.trapPlaysRow.holds Try.pinned (OpenSpec.ofChange Rows.trapPlaysSpec) :=
  OpenClaim.holds_of_wide 4 Try.f4 rfl rfl rfl rfl rfl rfl rfl ⟨rfl, rfl, rfl, rfl, rfl⟩ rfl rfl rfl rfl rfl (by kernel_rfl) Try.func4 (by kernel_rfl)
    (of_decide_eq_true (by kernel_rfl)) (by unfold Func.isWrapper; first | (rw [if_pos (by decide +kernel)]; kernel_rfl) | (rw [if_neg (by decide +kernel)]; exact ⟨rfl, rfl⟩))
    (fun os started H enc _ => lifted os started H enc)

theorem proved : Rows.TrapPlaysSaid := over
#print axioms proved
end Go.Proofs.Ytepdlgcoehpnbaa.trapPlays
