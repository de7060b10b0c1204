/-
  ValueTells: the law returns true, whatever its arguments are. No condition: every argument that the statement lets in. (The abstract machine of YtjoniicebjpdaaaABDef is reckoned by hand in the forms of YtjoniicebjpdaaaABS; what it tells, the model does: YtjoniicebjpdaaaABX.)
-/
import Derived.Test.YtjoniicebjpdaaaRows
import Derived.Test.YtjoniicebjpdaaaABProg
import Derived.Test.YtjoniicebjpdaaaM1
import Derived.Test.YtjoniicebjpdaaaABRow
import Derived.WalkKit
import Derived.ProofKit
import Derived.OpenShut
set_option linter.unusedVariables false
namespace Go.Proofs.Ytjoniicebjpdaaa.valueTells
open Go.ChangeShapes Go.WideShapes Go.ChangeAt Go.RowKit Go.Ab

theorem told : okTrue (acall Try.prog 60 F_precentorlaw3_known [] Heap.empty) = true := by kernel_rfl
theorem xok : XOk Try.prog (XTab.one F_precentorlaw3_known) := XOk.one follows slots told
theorem only : OnlyKnown (XTab.one F_precentorlaw3_known) := by
  intro f a h
  unfold XTab.one
  split
  · rename_i e; subst e; cases h
  · rfl
theorem cells3 : Try.prog.cellsOf 3 = 1 := by kernel_rfl

theorem read {P : Program} {X : XTab} {f : FuncId} (u3 : P.underlying 3 = some (.int .i64)) (c3 : P.cellsOf 3 = 1) (g1 : Reads P 24 (fun h a => ∃ x : Vl, a = .agg (vlC x) ∧ In64 x.n)) (g2 : Reads P 24 (fun h a => ∃ x : Vl, a = .agg (vlC x) ∧ In64 x.n)) (u36 : P.underlying 36 = some (.slice 3)) (u2 : P.underlying 2 = some (.int .i64)) (g5 : Reads P 22 (fun h a => ∃ x : Nat, a = .flt .f64 x ∧ x < 18446744073709551616)) (g6 : Reads P 9 (fun h a => ∃ s : ByteArray, a = .str s ∧ s.size < 2 ^ 63)) (g7 : Reads P 4 (fun h a => ∃ x : Bool, a = .bool x))
    (con : ∀ (h : Heap) (x1 : Vl) (r1 : In64 x1.n) (x2 : Vl) (r2 : In64 x2.n) (a3 : AVal) (xs3 : List Int) (r3 : RawInts h a3 xs3) (x4 : Int) (r4 : In64 x4) (x5 : Nat) (r5 : x5 < 18446744073709551616) (x6 : ByteArray) (r6 : x6.size < 2 ^ 63) (x7 : Bool), Tells (fun m => acallX P X m f [(.agg (vlC x1)), (.agg (vlC x2)), a3, I x4, (.flt .f64 x5), (.str x6), (.bool x7)] h) fun a _ => a = .bool true)
    {H : Type} {enc : TypeId × Value → H} (W : World) (base : Nat) (vs : List Value) (ds : List (DataW H)) (p : List MemPlace) (hv : ∀ (j : Nat) t v, ([24, 24, 36, 2, 22, 9, 4] : List TypeId)[j]? = some t → vs[j]? = some v → Value.okWide P W .any base t v)
    (hA : DataW.TrodAll enc P W 0 (fun _ => true) true [24, 24, 36, 2, 22, 9, 4] vs ds p) : Tells (fun m => acallX P X m f (ofVs W.heap.size vs) (Heap.ofW W)) fun a _ => a = .bool true := by
  obtain ⟨v1, vs1, d1, ds1, p1, q1, rfl, rfl, rfl, t1, hA⟩ := trodAll_cons hA
  obtain ⟨v2, vs2, d2, ds2, p2, q2, rfl, rfl, rfl, t2, hA⟩ := trodAll_cons hA
  obtain ⟨v3, vs3, d3, ds3, p3, q3, rfl, rfl, rfl, t3, hA⟩ := trodAll_cons hA
  obtain ⟨v4, vs4, d4, ds4, p4, q4, rfl, rfl, rfl, t4, hA⟩ := trodAll_cons hA
  obtain ⟨v5, vs5, d5, ds5, p5, q5, rfl, rfl, rfl, t5, hA⟩ := trodAll_cons hA
  obtain ⟨v6, vs6, d6, ds6, p6, q6, rfl, rfl, rfl, t6, hA⟩ := trodAll_cons hA
  obtain ⟨v7, vs7, d7, ds7, p7, q7, rfl, rfl, rfl, t7, hA⟩ := trodAll_cons hA
  obtain ⟨rfl, rfl, rfl⟩ := trodAll_nil hA
  have k1 := hv 0 _ _ rfl rfl
  have k2 := hv 1 _ _ rfl rfl
  have k3 := hv 2 _ _ rfl rfl
  have k4 := hv 3 _ _ rfl rfl
  have k5 := hv 4 _ _ rfl rfl
  have k6 := hv 5 _ _ rfl rfl
  have k7 := hv 6 _ _ rfl rfl
  obtain ⟨x1, e1, r1⟩ := g1 _ _ _ _ _ _ _ k1 t1
  obtain ⟨x2, e2, r2⟩ := g2 _ _ _ _ _ _ _ k2 t2
  obtain ⟨xs3, r3⟩ := arg_ints u36 u3 c3 k3 t3
  obtain ⟨x4, e4, r4⟩ := arg_int u2 k4 t4 W.heap.size
  obtain ⟨x5, e5, r5⟩ := g5 _ _ _ _ _ _ _ k5 t5
  obtain ⟨x6, e6, r6⟩ := g6 _ _ _ _ _ _ _ k6 t6
  obtain ⟨x7, e7⟩ := g7 _ _ _ _ _ _ _ k7 t7
  simp only [ofVs, e1, e2, e4, e5, e6, e7]
  exact con _ x1 r1 x2 r2 _ _ r3 x4 r4 x5 r5 x6 r6 x7

theorem lifted (os : Os) (started : os.Started) (H : Type) (enc : TypeId × Value → H) :
    ReturnsInHanded {} Try.checked os 4 .any (Rows.valueTellsSpec.pre6 enc Try.prog Try.f4 Rows.valueTellsRow.domain false) (Rows.valueTellsSpec.post enc Try.prog Try.f4 false true false false) :=
  lift_open (P := Try.prog) rfl own started (by kernel_rfl) Try.func4
    (ChangeSpec.witness6 (enc := enc) (C := Try.checked) false ⟨#[], #[.agg #[.int .i64 0, .int .i64 0, .float .f64 0, .string ⟨#[]⟩, .bool false], .agg #[.int .i64 0, .int .i64 0, .float .f64 0, .string ⟨#[]⟩, .bool false], .slice none 0 0, .int .i64 0, .float .f64 0, .string ⟨#[]⟩, .bool false], []⟩ 8 (by kernel_rfl) (by kernel_rfl) (by kernel_rfl) (by kernel_rfl))
    follows slots xok rfl laid (ts := [24, 24, 36, 2, 22, 9, 4]) (by kernel_rfl) (by kernel_rfl) rfl Try.underlying4 (fun ds hd => match ds, hd with
      | [_, _, _, _, _, _, _], _ => rfl) (read Try.underlying3 cells3 reads24v reads24v Try.underlying36 Try.underlying2 (reads_flt Try.underlying22) (reads_str Try.underlying9) (reads_bool Try.underlying4) fun h x1 r1 x2 r2 a3 xs3 r3 x4 r4 x5 r5 x6 r6 x7 => valueTells_ only rfl x1 r1 x2 r2 r3 x4 r4 x5 r5 x6 r6 x7)

theorem over : Rows.valueTellsRow.holds Try.pinned (OpenSpec.ofChange Rows.valueTellsSpec) :=
  OpenClaim.holds_of_wide 4 Try.f4 rfl rfl rfl rfl rfl rfl rfl ⟨rfl, rfl, rfl, rfl, rfl⟩ rfl rfl rfl rfl rfl (by kernel_rfl) Try.func4 (by kernel_rfl)
    (of_decide_eq_true (by kernel_rfl)) (by unfold Func.isWrapper; first | (rw [if_pos (by decide +kernel)]; kernel_rfl) | (rw [if_neg (by decide +kernel)]; exact ⟨rfl, rfl⟩))
    (fun os started H enc _ => lifted os started H enc)

theorem proved : Rows.ValueTellsSaid := over
#print axioms proved
end Go.Proofs.Ytjoniicebjpdaaa.valueTells
