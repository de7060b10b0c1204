/-
  AttrTells: the law returns true, whatever its arguments are. No condition: every argument that the statement lets in. (The abstract machine of YtfbipojncmkckaaABDef is reckoned by hand in the forms of YtfbipojncmkckaaABS; what it tells, the model does: YtfbipojncmkckaaABX.)
-/
import Derived.Test.YtfbipojncmkckaaRows
import Derived.Test.YtfbipojncmkckaaABProg
import Derived.Test.YtfbipojncmkckaaLaw5f
import Derived.Test.YtfbipojncmkckaaABRow
import Derived.WalkKit
import Derived.ProofKit
import Derived.OpenShut
set_option linter.unusedVariables false
namespace Go.Proofs.Ytfbipojncmkckaa.attrTells
open Go.ChangeShapes Go.WideShapes Go.ChangeAt Go.RowKit Go.Ab

theorem told : okTrue (acall Try.prog 60 F_precentorlaw5_known [] Heap.empty) = true := by kernel_rfl
theorem xok : XOk Try.prog (XTab.one F_precentorlaw5_known) := XOk.one follows slots told
theorem only : OnlyKnown (XTab.one F_precentorlaw5_known) := by
  intro f a h
  unfold XTab.one
  split
  · rename_i e; subst e; cases h
  · rfl
theorem cells3 : Try.prog.cellsOf 3 = 1 := by kernel_rfl

theorem read {P : Program} {X : XTab} {f : FuncId} (u3 : P.underlying 3 = some (.int .i64)) (c3 : P.cellsOf 3 = 1) (g1 : Reads P 28 (fun h a => ∃ x, RawA h a x)) (g2 : Reads P 28 (fun h a => ∃ x, RawA h a x)) (u37 : P.underlying 37 = some (.slice 3)) (g4 : Reads P 9 (fun h a => ∃ s : ByteArray, a = .str s ∧ s.size < 2 ^ 63))
    (con : ∀ (h : Heap) (a1 : AVal) (xs1 : List Att) (r1 : RawA h a1 xs1) (a2 : AVal) (xs2 : List Att) (r2 : RawA h a2 xs2) (a3 : AVal) (xs3 : List Int) (r3 : RawInts h a3 xs3) (x4 : ByteArray) (r4 : x4.size < 2 ^ 63), Tells (fun m => acallX P X m f [a1, a2, a3, (.str x4)] h) fun a _ => a = .bool true)
    {H : Type} {enc : TypeId × Value → H} (W : World) (base : Nat) (vs : List Value) (ds : List (DataW H)) (p : List MemPlace) (hv : ∀ (j : Nat) t v, ([28, 28, 37, 9] : List TypeId)[j]? = some t → vs[j]? = some v → Value.okWide P W .any base t v)
    (hA : DataW.TrodAll enc P W 0 (fun _ => true) true [28, 28, 37, 9] vs ds p) : Tells (fun m => acallX P X m f (ofVs W.heap.size vs) (Heap.ofW W)) fun a _ => a = .bool true := by
  obtain ⟨v1, vs1, d1, ds1, p1, q1, rfl, rfl, rfl, t1, hA⟩ := trodAll_cons hA
  obtain ⟨v2, vs2, d2, ds2, p2, q2, rfl, rfl, rfl, t2, hA⟩ := trodAll_cons hA
  obtain ⟨v3, vs3, d3, ds3, p3, q3, rfl, rfl, rfl, t3, hA⟩ := trodAll_cons hA
  obtain ⟨v4, vs4, d4, ds4, p4, q4, rfl, rfl, rfl, t4, hA⟩ := trodAll_cons hA
  obtain ⟨rfl, rfl, rfl⟩ := trodAll_nil hA
  have k1 := hv 0 _ _ rfl rfl
  have k2 := hv 1 _ _ rfl rfl
  have k3 := hv 2 _ _ rfl rfl
  have k4 := hv 3 _ _ rfl rfl
  obtain ⟨xs1, r1⟩ := g1 _ _ _ _ _ _ _ k1 t1
  obtain ⟨xs2, r2⟩ := g2 _ _ _ _ _ _ _ k2 t2
  obtain ⟨xs3, r3⟩ := arg_ints u37 u3 c3 k3 t3
  obtain ⟨x4, e4, r4⟩ := g4 _ _ _ _ _ _ _ k4 t4
  simp only [ofVs, e4]
  exact con _ _ _ r1 _ _ r2 _ _ r3 x4 r4

theorem lifted (os : Os) (started : os.Started) (H : Type) (enc : TypeId × Value → H) :
    ReturnsInHanded {} Try.checked os 4 .any (Rows.attrTellsSpec.pre6 enc Try.prog Try.f4 Rows.attrTellsRow.domain false) (Rows.attrTellsSpec.post enc Try.prog Try.f4 false true false false) :=
  lift_open (P := Try.prog) rfl own started (by kernel_rfl) Try.func4
    (ChangeSpec.witness6 (enc := enc) (C := Try.checked) false ⟨#[], #[.slice none 0 0, .slice none 0 0, .slice none 0 0, .string ⟨#[]⟩], []⟩ 8 (by kernel_rfl) (by kernel_rfl) (by kernel_rfl) (by kernel_rfl))
    follows slots xok rfl laid (ts := [28, 28, 37, 9]) (by kernel_rfl) (by kernel_rfl) rfl Try.underlying4 (fun ds hd => match ds, hd with
      | [_, _, _, _], _ => rfl) (read Try.underlying3 cells3 reads28 reads28 Try.underlying37 (reads_str Try.underlying9) fun h a1 xs1 r1 a2 xs2 r2 a3 xs3 r3 x4 r4 => attrTells_ only rfl r1 r2 r3 x4 r4)

theorem over : Rows.attrTellsRow.holds Try.pinned (OpenSpec.ofChange Rows.attrTellsSpec) :=
  OpenClaim.holds_of_wide 4 Try.f4 rfl rfl rfl rfl rfl rfl rfl ⟨rfl, rfl, rfl, rfl, rfl⟩ rfl rfl rfl rfl rfl (by kernel_rfl) Try.func4 (by kernel_rfl)
    (of_decide_eq_true (by kernel_rfl)) (by unfold Func.isWrapper; first | (rw [if_pos (by decide +kernel)]; kernel_rfl) | (rw [if_neg (by decide +kernel)]; exact ⟨rfl, rfl⟩))
    (fun os started H enc _ => lifted os started H enc)

theorem proved : Rows.AttrTellsSaid := over
#print axioms proved
end Go.Proofs.Ytfbipojncmkckaa.attrTells
