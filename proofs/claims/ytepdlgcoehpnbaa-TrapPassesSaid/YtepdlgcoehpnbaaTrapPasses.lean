/-
  TrapPasses: the law returns true, whatever its arguments are. No condition: every argument that the statement lets in. (The abstract machine of YtepdlgcoehpnbaaABDef is reckoned by hand in the forms of YtepdlgcoehpnbaaABS; what it tells, the model does: YtepdlgcoehpnbaaABX.)
-/
import Derived.Test.YtepdlgcoehpnbaaRows
import Derived.Test.YtepdlgcoehpnbaaABProg
import Derived.Test.YtepdlgcoehpnbaaTP2
import Derived.Test.YtepdlgcoehpnbaaABRowS
import Derived.WalkKit
import Derived.ProofKit
import Derived.OpenShut
set_option linter.unusedVariables false
namespace Go.Proofs.Ytepdlgcoehpnbaa.trapPasses
open Go.ChangeShapes Go.WideShapes Go.ChangeAt Go.RowKit Go.Ab

theorem told : okTrue (acall Try.prog 60 F_precentorlaw1_known [] Heap.empty) = true := by kernel_rfl
theorem xok : XOk Try.prog (XTab.one F_precentorlaw1_known) := XOk.one follows slots told
theorem only : OnlyKnown (XTab.one F_precentorlaw1_known) := by
  intro f a h
  unfold XTab.one
  split
  · rename_i e; subst e; cases h
  · rfl
theorem cells3 : Try.prog.cellsOf 3 = 1 := by kernel_rfl

theorem read {P : Program} {X : XTab} {f : FuncId} (u3 : P.underlying 3 = some (.int .i64)) (c3 : P.cellsOf 3 = 1) (u9 : P.underlying 9 = some .string)
    (con : ∀ (h : Heap) (x1 : ByteArray) (r1 : x1.size < 2 ^ 61) (x2 : Int) (r2 : In64 x2), Tells (fun m => acallX P X m f [(.str x1), I x2] h) fun a _ => a = .bool true)
    {H : Type} {enc : TypeId × Value → H} (W : World) (base : Nat) (vs : List Value) (ds : List (DataW H)) (p : List MemPlace) (hv : ∀ (j : Nat) t v, ([9, 3] : List TypeId)[j]? = some t → vs[j]? = some v → Value.okWide P W .any base t v)
    (hA : DataW.TrodAll enc P W 0 (fun _ => true) true [9, 3] vs ds p) (hsz : Short [9, 3] ds) : Tells (fun m => acallX P X m f (ofVs W.heap.size vs) (Heap.ofW W)) fun a _ => a = .bool true := by
  obtain ⟨v1, vs1, d1, ds1, p1, q1, rfl, rfl, rfl, t1, hA⟩ := trodAll_cons hA
  obtain ⟨v2, vs2, d2, ds2, p2, q2, rfl, rfl, rfl, t2, hA⟩ := trodAll_cons hA
  obtain ⟨rfl, rfl, rfl⟩ := trodAll_nil hA
  have k1 := hv 0 _ _ rfl rfl
  have k2 := hv 1 _ _ rfl rfl
  obtain ⟨x1, e1, r1⟩ := arg_strS u9 k1 t1 hsz 0 rfl rfl W.heap.size
  obtain ⟨x2, e2, r2⟩ := arg_int u3 k2 t2 W.heap.size
  simp only [ofVs, e1, e2]
  exact con _ x1 r1 x2 r2

theorem lifted (os : Os) (started : os.Started) (H : Type) (enc : TypeId × Value → H) :
    ReturnsInHanded {} Try.checked os 5 .any (Rows.trapPassesSpec.pre6 enc Try.prog Try.f5 Rows.trapPassesRow.domain false) (Rows.trapPassesSpec.post enc Try.prog Try.f5 false true false false) :=
  lift_open_sized (P := Try.prog) rfl own started (by kernel_rfl) Try.func5
    (ChangeSpec.witness6 (enc := enc) (C := Try.checked) false ⟨#[], #[.string ⟨#[]⟩, .int .i64 0], []⟩ 8 (by kernel_rfl) (by kernel_rfl) (by kernel_rfl) (by kernel_rfl))
    follows slots xok rfl laid (ts := [9, 3]) (by kernel_rfl) (by kernel_rfl) rfl Try.underlying4 (fun ds hd => match ds, hd with
      | [_, _], _ => rfl) (read Try.underlying3 cells3 Try.underlying9 fun h x1 r1 x2 r2 => trapPasses_ only rfl x1 r1 x2 r2)

theorem over : Rows.trapPassesRow.holds Try.pinned (OpenSpec.ofChange Rows.trapPassesSpec) :=
  OpenClaim.holds_of_wide 5 Try.f5 rfl rfl rfl rfl rfl rfl rfl ⟨rfl, rfl, rfl, rfl, rfl⟩ rfl rfl rfl rfl rfl (by kernel_rfl) Try.func5 (by kernel_rfl)
    (of_decide_eq_true (by kernel_rfl)) (by unfold Func.isWrapper; first | (rw [if_pos (by decide +kernel)]; kernel_rfl) | (rw [if_neg (by decide +kernel)]; exact ⟨rfl, rfl⟩))
    (fun os started H enc _ => lifted os started H enc)

theorem proved : Rows.TrapPassesSaid := over
#print axioms proved
end Go.Proofs.Ytepdlgcoehpnbaa.trapPasses
