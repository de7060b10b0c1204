/-
  FloatBits: the law returns true, whatever its arguments are. No condition: every argument that the statement lets in. (The abstract machine of YtnlcjindeoaklaaABDef is reckoned by hand in the forms of YtnlcjindeoaklaaABS; what it tells, the model does: YtnlcjindeoaklaaABX.)
-/
import Derived.Test.YtnlcjindeoaklaaRows
import Derived.Test.YtnlcjindeoaklaaABProg
import Derived.Test.YtnlcjindeoaklaaLaw2b
import Derived.Test.YtnlcjindeoaklaaABRow
import Derived.WalkKit
import Derived.ProofKit
import Derived.OpenShut
set_option linter.unusedVariables false
namespace Go.Proofs.Ytnlcjindeoaklaa.floatBits
open Go.ChangeShapes Go.WideShapes Go.ChangeAt Go.RowKit Go.Ab

theorem told : okTrue (acall Try.prog 60 F_precentorlaw2_known [] Heap.empty) = true := by kernel_rfl
theorem xok : XOk Try.prog (XTab.one F_precentorlaw2_known) := XOk.one follows slots told
theorem only : OnlyKnown (XTab.one F_precentorlaw2_known) := by
  intro f a h
  unfold XTab.one
  split
  · rename_i e; subst e; cases h
  · rfl
theorem cells3 : Try.prog.cellsOf 3 = 1 := by kernel_rfl

theorem read {P : Program} {X : XTab} {f : FuncId} (u3 : P.underlying 3 = some (.int .i64)) (c3 : P.cellsOf 3 = 1) (g1 : Reads P 22 (fun h a => ∃ x : Nat, a = .flt .f64 x ∧ x < 18446744073709551616)) (g2 : Reads P 22 (fun h a => ∃ x : Nat, a = .flt .f64 x ∧ x < 18446744073709551616)) (u35 : P.underlying 35 = some (.slice 3))
    (con : ∀ (h : Heap) (x1 : Nat) (r1 : x1 < 18446744073709551616) (x2 : Nat) (r2 : x2 < 18446744073709551616) (a3 : AVal) (xs3 : List Int) (r3 : RawInts h a3 xs3), Tells (fun m => acallX P X m f [(.flt .f64 x1), (.flt .f64 x2), a3] h) fun a _ => a = .bool true)
    {H : Type} {enc : TypeId × Value → H} (W : World) (base : Nat) (vs : List Value) (ds : List (DataW H)) (p : List MemPlace) (hv : ∀ (j : Nat) t v, ([22, 22, 35] : List TypeId)[j]? = some t → vs[j]? = some v → Value.okWide P W .any base t v)
    (hA : DataW.TrodAll enc P W 0 (fun _ => true) true [22, 22, 35] vs ds p) : Tells (fun m => acallX P X m f (ofVs W.heap.size vs) (Heap.ofW W)) fun a _ => a = .bool true := by
  obtain ⟨v1, vs1, d1, ds1, p1, q1, rfl, rfl, rfl, t1, hA⟩ := trodAll_cons hA
  obtain ⟨v2, vs2, d2, ds2, p2, q2, rfl, rfl, rfl, t2, hA⟩ := trodAll_cons hA
  obtain ⟨v3, vs3, d3, ds3, p3, q3, rfl, rfl, rfl, t3, hA⟩ := trodAll_cons hA
  obtain ⟨rfl, rfl, rfl⟩ := trodAll_nil hA
  have k1 := hv 0 _ _ rfl rfl
  have k2 := hv 1 _ _ rfl rfl
  have k3 := hv 2 _ _ rfl rfl
  obtain ⟨x1, e1, r1⟩ := g1 _ _ _ _ _ _ _ k1 t1
  obtain ⟨x2, e2, r2⟩ := g2 _ _ _ _ _ _ _ k2 t2
  obtain ⟨xs3, r3⟩ := arg_ints u35 u3 c3 k3 t3
  simp only [ofVs, e1, e2]
  exact con _ x1 r1 x2 r2 _ _ r3

theorem lifted (os : Os) (started : os.Started) (H : Type) (enc : TypeId × Value → H) :
    ReturnsInHanded {} Try.checked os 6 .any (Rows.floatBitsSpec.pre6 enc Try.prog Try.f6 Rows.floatBitsRow.domain false) (Rows.floatBitsSpec.post enc Try.prog Try.f6 false true false false) :=
  lift_open (P := Try.prog) rfl own started (by kernel_rfl) Try.func6
    (ChangeSpec.witness6 (enc := enc) (C := Try.checked) false ⟨#[], #[.float .f64 0, .float .f64 0, .slice none 0 0], []⟩ 8 (by kernel_rfl) (by kernel_rfl) (by kernel_rfl) (by kernel_rfl))
    follows slots xok rfl laid (ts := [22, 22, 35]) (by kernel_rfl) (by kernel_rfl) rfl Try.underlying4 (fun ds hd => match ds, hd with
      | [_, _, _], _ => rfl) (read Try.underlying3 cells3 (reads_flt Try.underlying22) (reads_flt Try.underlying22) Try.underlying35 fun h x1 r1 x2 r2 a3 xs3 r3 => floatBits_ only rfl x1 r1 x2 r2 r3)

theorem over : Rows.floatBitsRow.holds Try.pinned (OpenSpec.ofChange Rows.floatBitsSpec) :=
  OpenClaim.holds_of_wide 6 Try.f6 rfl rfl rfl rfl rfl rfl rfl ⟨rfl, rfl, rfl, rfl, rfl⟩ rfl rfl rfl rfl rfl (by kernel_rfl) Try.func6 (by kernel_rfl)
    (of_decide_eq_true (by kernel_rfl)) (by unfold Func.isWrapper; first | (rw [if_pos (by decide +kernel)]; kernel_rfl) | (rw [if_neg (by decide +kernel)]; exact ⟨rfl, rfl⟩))
    (fun os started H enc _ => lifted os started H enc)

theorem proved : Rows.FloatBitsSaid := over
#print axioms proved
end Go.Proofs.Ytnlcjindeoaklaa.floatBits
