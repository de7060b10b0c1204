/-
  TraceLine: the law returns true, whatever its arguments are. No condition: every argument that the statement lets in. (The abstract machine of YtochkdifpgelmaaABDef is reckoned by hand in the forms of YtochkdifpgelmaaABS; what it tells, the model does: YtochkdifpgelmaaABX.)
-/
import Derived.Test.YtochkdifpgelmaaRows
import Derived.Test.YtochkdifpgelmaaABProg
import Derived.Test.YtochkdifpgelmaaM2
import Derived.Test.YtochkdifpgelmaaABRow
import Derived.WalkKit
import Derived.ProofKit
import Derived.OpenShut
set_option linter.unusedVariables false
namespace Go.Proofs.Ytochkdifpgelmaa.traceLine
open Go.ChangeShapes Go.WideShapes Go.ChangeAt Go.RowKit Go.Ab

theorem told : okTrue (acall Try.prog 200 F_precentorlaw25_known [] Heap.empty) = true := by kernel_rfl
theorem xok : XOk Try.prog (XTab.one F_precentorlaw25_known) := XOk.one follows slots told
theorem only : OnlyKnown (XTab.one F_precentorlaw25_known) := by
  intro f a h
  unfold XTab.one
  split
  · rename_i e; subst e; cases h
  · rfl
theorem cells3 : Try.prog.cellsOf 3 = 1 := by kernel_rfl

theorem read {P : Program} {X : XTab} {f : FuncId} (u3 : P.underlying 3 = some (.int .i64)) (c3 : P.cellsOf 3 = 1) (u36 : P.underlying 36 = some (.slice 3))
    (con : ∀ (h : Heap) (a1 : AVal) (xs1 : List Int) (r1 : RawInts h a1 xs1), Tells (fun m => acallX P X m f [a1] h) fun a _ => a = .bool true)
    {H : Type} {enc : TypeId × Value → H} (W : World) (base : Nat) (vs : List Value) (ds : List (DataW H)) (p : List MemPlace) (hv : ∀ (j : Nat) t v, ([36] : List TypeId)[j]? = some t → vs[j]? = some v → Value.okWide P W .any base t v)
    (hA : DataW.TrodAll enc P W 0 (fun _ => true) true [36] vs ds p) : Tells (fun m => acallX P X m f (ofVs W.heap.size vs) (Heap.ofW W)) fun a _ => a = .bool true := by
  obtain ⟨v1, vs1, d1, ds1, p1, q1, rfl, rfl, rfl, t1, hA⟩ := trodAll_cons hA
  obtain ⟨rfl, rfl, rfl⟩ := trodAll_nil hA
  have k1 := hv 0 _ _ rfl rfl
  obtain ⟨xs1, r1⟩ := arg_ints u36 u3 c3 k1 t1
  simp only [ofVs]
  exact con _ _ _ r1

theorem lifted (os : Os) (started : os.Started) (H : Type) (enc : TypeId × Value → H) :
    ReturnsInHanded {} Try.checked os 5 .any (Rows.traceLineSpec.pre6 enc Try.prog Try.f5 Rows.traceLineRow.domain false) (Rows.traceLineSpec.post enc Try.prog Try.f5 false true false false) :=
  lift_open (P := Try.prog) rfl own started (by kernel_rfl) Try.func5
    (ChangeSpec.witness6 (enc := enc) (C := Try.checked) false ⟨#[], #[.slice none 0 0], []⟩ 8 (by kernel_rfl) (by kernel_rfl) (by kernel_rfl) (by kernel_rfl))
    follows slots xok rfl laid (ts := [36]) (by kernel_rfl) (by kernel_rfl) rfl Try.underlying4 (fun ds hd => match ds, hd with
      | [_], _ => rfl) (read Try.underlying3 cells3 Try.underlying36 fun h a1 xs1 r1 => traceLine_ only rfl r1)

theorem over : Rows.traceLineRow.holds Try.pinned (OpenSpec.ofChange Rows.traceLineSpec) :=
  OpenClaim.holds_of_wide 5 Try.f5 rfl rfl rfl rfl rfl rfl rfl ⟨rfl, rfl, rfl, rfl, rfl⟩ rfl rfl rfl rfl rfl (by kernel_rfl) Try.func5 (by kernel_rfl)
    (of_decide_eq_true (by kernel_rfl)) (by unfold Func.isWrapper; first | (rw [if_pos (by decide +kernel)]; kernel_rfl) | (rw [if_neg (by decide +kernel)]; exact ⟨rfl, rfl⟩))
    (fun os started H enc _ => lifted os started H enc)

theorem proved : Rows.TraceLineSaid := over
#print axioms proved
end Go.Proofs.Ytochkdifpgelmaa.traceLine
