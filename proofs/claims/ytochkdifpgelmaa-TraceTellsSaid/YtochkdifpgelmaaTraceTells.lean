/-
  TraceTells: the law returns true, whatever its arguments are. No condition: every argument that the statement lets in. (The abstract machine of YtochkdifpgelmaaABDef is reckoned by hand in the forms of YtochkdifpgelmaaABS; what it tells, the model does: YtochkdifpgelmaaABX.)
-/
import Derived.Test.YtochkdifpgelmaaRows
import Derived.Test.YtochkdifpgelmaaABProg
import Derived.Test.YtochkdifpgelmaaM3
import Derived.Test.YtochkdifpgelmaaABRow
import Derived.WalkKit
import Derived.ProofKit
import Derived.OpenShut
set_option linter.unusedVariables false
namespace Go.Proofs.Ytochkdifpgelmaa.traceTells
open Go.ChangeShapes Go.WideShapes Go.ChangeAt Go.RowKit Go.Ab

theorem told : okTrue (acall Try.prog 200 F_precentorlaw25_known [] Heap.empty) = true := by kernel_rfl
theorem xok : XOk Try.prog (XTab.one F_precentorlaw25_known) := XOk.one follows slots told
theorem only : OnlyKnown (XTab.one F_precentorlaw25_known) := by
  intro f a h
  unfold XTab.one
  split
  · rename_i e; subst e; cases h
  · rfl
theorem cells3 : Try.prog.cellsOf 3 = 1 := by kernel_rfl

theorem read {P : Program} {X : XTab} {f : FuncId} (u3 : P.underlying 3 = some (.int .i64)) (c3 : P.cellsOf 3 = 1) (u36 : P.underlying 36 = some (.slice 3)) (g2 : Reads P 26 (fun h a => ∃ x, RawMk h a x)) (g3 : Reads P 4 (fun h a => ∃ x : Bool, a = .bool x)) (g5 : Reads P 30 (fun h a => ∃ x, RawId h a x))
    (con : ∀ (h : Heap) (a1 : AVal) (xs1 : List Int) (r1 : RawInts h a1 xs1) (a2 : AVal) (xs2 : (List Mk)) (r2 : RawMk h a2 xs2) (x3 : Bool) (x4 : Int) (r4 : In64 x4) (a5 : AVal) (xs5 : (Int × Int)) (r5 : RawId h a5 xs5), Tells (fun m => acallX P X m f [a1, a2, (.bool x3), I x4, a5] h) fun a _ => a = .bool true)
    {H : Type} {enc : TypeId × Value → H} (W : World) (base : Nat) (vs : List Value) (ds : List (DataW H)) (p : List MemPlace) (hv : ∀ (j : Nat) t v, ([36, 26, 4, 3, 30] : List TypeId)[j]? = some t → vs[j]? = some v → Value.okWide P W .any base t v)
    (hA : DataW.TrodAll enc P W 0 (fun _ => true) true [36, 26, 4, 3, 30] vs ds p) : Tells (fun m => acallX P X m f (ofVs W.heap.size vs) (Heap.ofW W)) fun a _ => a = .bool true := by
  obtain ⟨v1, vs1, d1, ds1, p1, q1, rfl, rfl, rfl, t1, hA⟩ := trodAll_cons hA
  obtain ⟨v2, vs2, d2, ds2, p2, q2, rfl, rfl, rfl, t2, hA⟩ := trodAll_cons hA
  obtain ⟨v3, vs3, d3, ds3, p3, q3, rfl, rfl, rfl, t3, hA⟩ := trodAll_cons hA
  obtain ⟨v4, vs4, d4, ds4, p4, q4, rfl, rfl, rfl, t4, hA⟩ := trodAll_cons hA
  obtain ⟨v5, vs5, d5, ds5, p5, q5, rfl, rfl, rfl, t5, hA⟩ := trodAll_cons hA
  obtain ⟨rfl, rfl, rfl⟩ := trodAll_nil hA
  have k1 := hv 0 _ _ rfl rfl
  have k2 := hv 1 _ _ rfl rfl
  have k3 := hv 2 _ _ rfl rfl
  have k4 := hv 3 _ _ rfl rfl
  have k5 := hv 4 _ _ rfl rfl
  obtain ⟨xs1, r1⟩ := arg_ints u36 u3 c3 k1 t1
  obtain ⟨xs2, r2⟩ := g2 _ _ _ _ _ _ _ k2 t2
  obtain ⟨x3, e3⟩ := g3 _ _ _ _ _ _ _ k3 t3
  obtain ⟨x4, e4, r4⟩ := arg_int u3 k4 t4 W.heap.size
  obtain ⟨xs5, r5⟩ := g5 _ _ _ _ _ _ _ k5 t5
  simp only [ofVs, e3, e4]
  exact con _ _ _ r1 _ _ r2 x3 x4 r4 _ _ r5

theorem lifted (os : Os) (started : os.Started) (H : Type) (enc : TypeId × Value → H) :
    ReturnsInHanded {} Try.checked os 4 .any (Rows.traceTellsSpec.pre6 enc Try.prog Try.f4 Rows.traceTellsRow.domain false) (Rows.traceTellsSpec.post enc Try.prog Try.f4 false true false false) :=
  lift_open (P := Try.prog) rfl own started (by kernel_rfl) Try.func4
    (ChangeSpec.witness6 (enc := enc) (C := Try.checked) false ⟨#[], #[.slice none 0 0, .slice none 0 0, .bool false, .int .i64 0, .agg #[.int .i64 0, .int .i64 0]], []⟩ 8 (by kernel_rfl) (by kernel_rfl) (by kernel_rfl) (by kernel_rfl))
    follows slots xok rfl laid (ts := [36, 26, 4, 3, 30]) (by kernel_rfl) (by kernel_rfl) rfl Try.underlying4 (fun ds hd => match ds, hd with
      | [_, _, _, _, _], _ => rfl) (read Try.underlying3 cells3 Try.underlying36 reads26 (reads_bool Try.underlying4) reads30 fun h a1 xs1 r1 a2 xs2 r2 x3 x4 r4 a5 xs5 r5 => traceTells_ only rfl r1 r2 x3 x4 r4 r5)

theorem over : Rows.traceTellsRow.holds Try.pinned (OpenSpec.ofChange Rows.traceTellsSpec) :=
  OpenClaim.holds_of_wide 4 Try.f4 rfl rfl rfl rfl rfl rfl rfl ⟨rfl, rfl, rfl, rfl, rfl⟩ rfl rfl rfl rfl rfl (by kernel_rfl) Try.func4 (by kernel_rfl)
    (of_decide_eq_true (by kernel_rfl)) (by unfold Func.isWrapper; first | (rw [if_pos (by decide +kernel)]; kernel_rfl) | (rw [if_neg (by decide +kernel)]; exact ⟨rfl, rfl⟩))
    (fun os started H enc _ => lifted os started H enc)

theorem proved : Rows.TraceTellsSaid := over
#print axioms proved
end Go.Proofs.Ytochkdifpgelmaa.traceTells
