/-
  Values compared as structs.
-/
import Derived.Test.YtjoniicebjpdaaaHandW
import Derived.Test.YtjoniicebjpdaaaEq2
import Derived.Test.YtjoniicebjpdaaaOps
import Derived.MapKept
import Derived.WideShapes
import Derived.Laws.Closers25b
set_option linter.unusedVariables false
set_option linter.unusedSimpArgs false
namespace Go.Proofs.Ytjoniicebjpdaaa
open Go Go.Ab

theorem aPure_eqFlt {P : Program} {t : TypeId} {k : FloatKind} (h : P.underlying t = some (.float k)) (d : Nat) (a b : Nat) : aPure P (Op.equalIn (d + 1) t (.float k a) (.float k b)) = some (Op.floatEq k a b) := by
  simp only [Op.equalIn, aPure_bind, aPure_und h, Option.bind_some]
  simp [aPure_pure]
theorem aPure_eqStr {P : Program} {t : TypeId} (h : P.underlying t = some .string) (d : Nat) (a b : ByteArray) : aPure P (Op.equalIn (d + 1) t (.string a) (.string b)) = some (a == b) := by
  simp only [Op.equalIn, aPure_bind, aPure_und h, Option.bind_some]
  simp [aPure_pure]
theorem aPure_eqBool {P : Program} {t : TypeId} (h : P.underlying t = some .bool) (d : Nat) (a b : Bool) : aPure P (Op.equalIn (d + 1) t (.bool a) (.bool b)) = some (a == b) := by
  simp only [Op.equalIn, aPure_bind, aPure_und h, Option.bind_some]
  simp [aPure_pure]
theorem aPure_partF {P : Program} {t : TypeId} {k : FloatKind} (h : P.underlying t = some (.float k)) {cs : Array Value} {off : Nat} {v : Value} (hv : cs[off]? = some v) : aPure P (part t cs off) = some v := by
  simp only [part, isAgg, aPure_bind, aPure_und h, Option.bind_some]
  simp [aPure_pure, hv]
theorem aPure_partS {P : Program} {t : TypeId} (h : P.underlying t = some .string) {cs : Array Value} {off : Nat} {v : Value} (hv : cs[off]? = some v) : aPure P (part t cs off) = some v := by
  simp only [part, isAgg, aPure_bind, aPure_und h, Option.bind_some]
  simp [aPure_pure, hv]
theorem aPure_partB {P : Program} {t : TypeId} (h : P.underlying t = some .bool) {cs : Array Value} {off : Nat} {v : Value} (hv : cs[off]? = some v) : aPure P (part t cs off) = some v := by
  simp only [part, isAgg, aPure_bind, aPure_und h, Option.bind_some]
  simp [aPure_pure, hv]
def vlV (v : Vl) : Value := .agg #[.int .i64 v.k, .int .i64 v.n, .float .f64 v.x, .string v.s, .bool v.b]
def eqVl (v w : Vl) : Bool := v.k == w.k && (v.n == w.n && (Op.floatEq .f64 v.x w.x && (v.s == w.s && v.b == w.b)))
theorem aPure_eq5 {P : Program} {t t0 t1 t2 t3 t4 : TypeId} {f0 f1 f2 f3 f4 : Field} (hu : P.underlying t = some (.struct #[f0, f1, f2, f3, f4])) (e0 : f0.name ≠ "_" ∧ f0.type = t0 ∧ f0.offset = 0) (e1 : f1.name ≠ "_" ∧ f1.type = t1 ∧ f1.offset = 1) (e2 : f2.name ≠ "_" ∧ f2.type = t2 ∧ f2.offset = 2)
    (e3 : f3.name ≠ "_" ∧ f3.type = t3 ∧ f3.offset = 3) (e4 : f4.name ≠ "_" ∧ f4.type = t4 ∧ f4.offset = 4) (u0 : P.underlying t0 = some (.int .i64)) (u1 : P.underlying t1 = some (.int .i64)) (u2 : P.underlying t2 = some (.float .f64)) (u3 : P.underlying t3 = some .string) (u4 : P.underlying t4 = some .bool)
    (hs : P.stoodInHeld t = false) (d : Nat) (v w : Vl) : aPure P (Op.equalIn (d + 2) t (vlV v) (vlV w)) = some (eqVl v w) := by
  obtain ⟨n0, y0, o0⟩ := e0
  obtain ⟨n1, y1, o1⟩ := e1
  obtain ⟨n2, y2, o2⟩ := e2
  obtain ⟨n3, y3, o3⟩ := e3
  obtain ⟨n4, y4, o4⟩ := e4
  unfold vlV
  rw [Op.equalIn]
  simp only [aPure_bind, aPure_und hu, aPure_prog, Option.bind_some, hs]
  have p0 : ∀ x : Vl, aPure P (part t0 #[.int .i64 x.k, .int .i64 x.n, .float .f64 x.x, .string x.s, .bool x.b] 0) = some (.int .i64 x.k) := fun x => aPure_part u0 rfl
  have p1 : ∀ x : Vl, aPure P (part t1 #[.int .i64 x.k, .int .i64 x.n, .float .f64 x.x, .string x.s, .bool x.b] 1) = some (.int .i64 x.n) := fun x => aPure_part u1 rfl
  have p2 : ∀ x : Vl, aPure P (part t2 #[.int .i64 x.k, .int .i64 x.n, .float .f64 x.x, .string x.s, .bool x.b] 2) = some (.float .f64 x.x) := fun x => aPure_partF u2 rfl
  have p3 : ∀ x : Vl, aPure P (part t3 #[.int .i64 x.k, .int .i64 x.n, .float .f64 x.x, .string x.s, .bool x.b] 3) = some (.string x.s) := fun x => aPure_partS u3 rfl
  have p4 : ∀ x : Vl, aPure P (part t4 #[.int .i64 x.k, .int .i64 x.n, .float .f64 x.x, .string x.s, .bool x.b] 4) = some (.bool x.b) := fun x => aPure_partB u4 rfl
  have q0 := fun x y => aPure_eqInt u0 d x y
  have q1 := fun x y => aPure_eqInt u1 d x y
  have q2 := fun x y => aPure_eqFlt u2 d x y
  have q3 := fun x y => aPure_eqStr u3 d x y
  have q4 := fun x y => aPure_eqBool u4 d x y
  unfold eqVl
  cases c0 : (v.k == w.k)
  · simp [n0, y0, o0, aPure_bind, aPure_pure, p0, q0, c0]
  cases c1 : (v.n == w.n)
  · simp [n0, y0, o0, n1, y1, o1, aPure_bind, aPure_pure, p0, q0, c0, p1, q1, c1]
  cases c2 : (Op.floatEq .f64 v.x w.x)
  · simp [n0, y0, o0, n1, y1, o1, n2, y2, o2, aPure_bind, aPure_pure, p0, q0, c0, p1, q1, c1, p2, q2, c2]
  cases c3 : (v.s == w.s)
  · simp [n0, y0, o0, n1, y1, o1, n2, y2, o2, n3, y3, o3, aPure_bind, aPure_pure, p0, q0, c0, p1, q1, c1, p2, q2, c2, p3, q3, c3]
  cases c4 : (v.b == w.b)
  · simp [n0, y0, o0, n1, y1, o1, n2, y2, o2, n3, y3, o3, n4, y4, o4, aPure_bind, aPure_pure, p0, q0, c0, p1, q1, c1, p2, q2, c2, p3, q3, c3, p4, q4, c4]
  · simp [n0, y0, o0, n1, y1, o1, n2, y2, o2, n3, y3, o3, n4, y4, o4, aPure_bind, aPure_pure, p0, q0, c0, p1, q1, c1, p2, q2, c2, p3, q3, c3, p4, q4, c4]
theorem aBin_eqlV {P : Program} {t : TypeId} (h : ∀ v w, aPure P (Op.equal t (vlV v) (vlV w)) = some (eqVl v w)) (hg : P.eqGuardType P.depth t = false) (x y : Operand) (v w : Vl) : aBin P .eql t x y (.agg (vlC v)) (.agg (vlC w)) = some (.bool (eqVl v w)) := by
  have gd : aPure P (eqGuard .eql t x y (vlV v) (vlV w)) = some () := by
    simp only [vlV, eqGuard, Bool.not_true, Bool.false_eq_true, if_false, aPure_bind, aPure_prog, Option.bind_some, hg]
    rfl
  have bn : aPure P (binOp .eql t (vlV v) (vlV w)) = some (.bool (eqVl v w)) := by
    show aPure P (Op.equal t (vlV v) (vlV w) >>= fun r => pure (Value.bool r)) = _
    rw [aPure_bind, h v w]
    rfl
  have v1 : ∀ v : Vl, (AVal.agg (vlC v)).toV = some (vlV v) := fun v => rfl
  simp only [aBin, v1, aPure_bind, gd, bn, Option.bind_some]
  rfl
theorem bytesBeq (a b : ByteArray) : (a == b) = (a.toList == b.toList) := by
  rw [Bool.eq_iff_iff, Go.MapKept.bytes_beq, beq_iff_eq, ByteArray.toList_eq, ByteArray.toList_eq]
  exact ⟨fun h => by rw [h], fun h => Go.WideShapes.bytes_inj h⟩
theorem eqVl_eq (v w : Vl) : eqVl v w = (v.k == w.k && (v.n == w.n && (ford v.x w.x == some .eq && (v.s.toList == w.s.toList && v.b == w.b)))) := by
  unfold eqVl
  rw [bytesBeq]
  rfl
end Go.Proofs.Ytjoniicebjpdaaa
