/-
  ConfigTells: the law returns true, whatever its arguments are. No condition: every argument that the statement lets in. (The abstract machine of YthhfeoilnkmnkaaABDef is reckoned by hand in the forms of YthhfeoilnkmnkaaABS; what it tells, the model does: YthhfeoilnkmnkaaABX.)
-/
import Derived.Test.YthhfeoilnkmnkaaRows
import Derived.Test.YthhfeoilnkmnkaaABProg
import Derived.Test.YthhfeoilnkmnkaaLaw10a
import Derived.Test.YthhfeoilnkmnkaaABRow
import Derived.WalkKit
import Derived.ProofKit
import Derived.OpenShut
set_option linter.unusedVariables false
namespace Go.Proofs.Ythhfeoilnkmnkaa.configTells
open Go.ChangeShapes Go.WideShapes Go.ChangeAt Go.RowKit Go.Ab

theorem told : okTrue (acall Try.prog 60 F_precentorlaw10_known [] Heap.empty) = true := by kernel_rfl
theorem xok : XOk Try.prog (XTab.one F_precentorlaw10_known) := XOk.one follows slots told
theorem only : OnlyKnown (XTab.one F_precentorlaw10_known) := by
  intro f a h
  unfold XTab.one
  split
  · rename_i e; subst e; cases h
  · rfl
theorem cells3 : Try.prog.cellsOf 3 = 1 := by kernel_rfl

theorem read {P : Program} {X : XTab} {f : FuncId} (u3 : P.underlying 3 = some (.int .i64)) (c3 : P.cellsOf 3 = 1) (u22 : P.underlying 22 = some (.slice 3)) (t24 : P.cellTypes P.depth 24 = some [22, 3, 3, 3, 3, 3]) (c24 : P.cellsOf 24 = 6) (f24 : ∃ fs : Array Field, P.underlying 24 = some (.struct fs) ∧ (∀ (i : Nat) (f : Field), fs[i]? = some f → f.offset = i ∧ P.cellsOf f.type = 1 ∧ [22, 3, 3, 3, 3, 3][i]? = some f.type) ∧ ∀ i : Nat, i < 6 → ∃ f, fs[i]? = some f)
    (con : ∀ (h : Heap) (a1 : AVal) (xs1 : List Int) (r1 : RawInts h a1 xs1) (c1 g1 b1 q1 s1 : Int) (a2 : AVal) (xs2 : List Int) (r2 : RawInts h a2 xs2) (x3 : Int) (r3 : In64 x3) (x4 : Int) (r4 : In64 x4), Tells (fun m => acallX P X m f [(.agg [a1, I c1, I g1, I b1, I q1, I s1]), a2, I x3, I x4] h) fun a _ => a = .bool true)
    {H : Type} {enc : TypeId × Value → H} (W : World) (base : Nat) (vs : List Value) (ds : List (DataW H)) (p : List MemPlace) (hv : ∀ (j : Nat) t v, ([24, 22, 3, 3] : List TypeId)[j]? = some t → vs[j]? = some v → Value.okWide P W .any base t v)
    (hA : DataW.TrodAll enc P W 0 (fun _ => true) true [24, 22, 3, 3] vs ds p) : Tells (fun m => acallX P X m f (ofVs W.heap.size vs) (Heap.ofW W)) fun a _ => a = .bool true := by
  obtain ⟨v1, vs1, d1, ds1, p1, q1, rfl, rfl, rfl, t1, hA⟩ := trodAll_cons hA
  obtain ⟨v2, vs2, d2, ds2, p2, q2, rfl, rfl, rfl, t2, hA⟩ := trodAll_cons hA
  obtain ⟨v3, vs3, d3, ds3, p3, q3, rfl, rfl, rfl, t3, hA⟩ := trodAll_cons hA
  obtain ⟨v4, vs4, d4, ds4, p4, q4, rfl, rfl, rfl, t4, hA⟩ := trodAll_cons hA
  obtain ⟨rfl, rfl, rfl⟩ := trodAll_nil hA
  have k1 := hv 0 _ _ rfl rfl
  have k2 := hv 1 _ _ rfl rfl
  have k3 := hv 2 _ _ rfl rfl
  have k4 := hv 3 _ _ rfl rfl
  obtain ⟨xs1, c1, g1, b1, q1, s1, w1, e1, r1⟩ := arg_config_ t24 c24 c3 u22 u3 f24 k1 t1
  obtain ⟨xs2, r2⟩ := arg_ints u22 u3 c3 k2 t2
  obtain ⟨x3, e3, r3⟩ := arg_int u3 k3 t3 W.heap.size
  obtain ⟨x4, e4, r4⟩ := arg_int u3 k4 t4 W.heap.size
  simp only [ofVs, e1, e3, e4]
  exact con _ _ _ r1 c1 g1 b1 q1 s1 _ _ r2 x3 r3 x4 r4

theorem lifted (os : Os) (started : os.Started) (H : Type) (enc : TypeId × Value → H) :
    ReturnsInHanded {} Try.checked os 3 .any (Rows.configTellsSpec.pre6 enc Try.prog Try.f3 Rows.configTellsRow.domain false) (Rows.configTellsSpec.post enc Try.prog Try.f3 false true false false) :=
  lift_open (P := Try.prog) rfl own started (by kernel_rfl) Try.func3
    (ChangeSpec.witness6 (enc := enc) (C := Try.checked) false ⟨#[], #[.agg #[.slice none 0 0, .int .i64 0, .int .i64 0, .int .i64 0, .int .i64 0, .int .i64 0], .slice none 0 0, .int .i64 0, .int .i64 0], []⟩ 8 (by kernel_rfl) (by kernel_rfl) (by kernel_rfl) (by kernel_rfl))
    follows slots xok rfl laid (ts := [24, 22, 3, 3]) (by kernel_rfl) (by kernel_rfl) rfl Try.underlying4 (fun ds hd => match ds, hd with
      | [_, _, _, _], _ => rfl) (read Try.underlying3 cells3 Try.underlying22 types24 cells24 fields24 fun h a1 xs1 r1 c1 g1 b1 q1 s1 a2 xs2 r2 x3 r3 x4 r4 => tells' only rfl r1 c1 g1 b1 q1 s1 r2 x3 r3 x4 r4)

theorem over : Rows.configTellsRow.holds Try.pinned (OpenSpec.ofChange Rows.configTellsSpec) :=
  OpenClaim.holds_of_wide 3 Try.f3 rfl rfl rfl rfl rfl rfl rfl ⟨rfl, rfl, rfl, rfl, rfl⟩ rfl rfl rfl rfl rfl (by kernel_rfl) Try.func3 (by kernel_rfl)
    (of_decide_eq_true (by kernel_rfl)) (by unfold Func.isWrapper; first | (rw [if_pos (by decide +kernel)]; kernel_rfl) | (rw [if_neg (by decide +kernel)]; exact ⟨rfl, rfl⟩))
    (fun os started H enc _ => lifted os started H enc)

theorem proved : Rows.ConfigTellsSaid := over
#print axioms proved
end Go.Proofs.Ythhfeoilnkmnkaa.configTells
