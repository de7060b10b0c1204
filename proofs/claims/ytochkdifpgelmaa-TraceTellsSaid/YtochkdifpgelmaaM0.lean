/-
  Texts of a claim, merged: Known0, Mrk, Trc0, Trc1, Trc2, Trc3, TrP, Trc4, Trc6, Trc7.
-/
import Derived.Test.YtochkdifpgelmaaB2
import Derived.Test.YtochkdifpgelmaaSIds
import Derived.Test.YtochkdifpgelmaaMapB
import Derived.Test.YtochkdifpgelmaaB3
import Derived.Test.YtochkdifpgelmaaStrace
import Derived.Test.YtochkdifpgelmaaMapC
import Derived.Test.YtochkdifpgelmaaFam
import Derived.Test.YtochkdifpgelmaaFrm
import Derived.Test.YtochkdifpgelmaaWrE
set_option linter.unusedVariables false
set_option linter.unusedSimpArgs false
/-! The package's closed example; pointers beside nil. -/
namespace Go.Proofs.Ytochkdifpgelmaa
open Go.Ab

theorem known_X {X : XTab} {F : FuncId} (hk : X F [] = some (.bool true)) (h : Heap) : Tells (fun m => acallX Try.prog X m F [] h) fun a h' => a = .bool true ∧ h' = h :=
  ⟨.bool true, h, ⟨rfl, rfl⟩, 1, fun m hm => by
    obtain ⟨k, rfl⟩ : ∃ k, m = k + 1 := ⟨m - 1, by omega⟩
    simp only [acallX, hk]⟩
theorem ptr_nil {t e : TypeId} (hu : Try.prog.underlying t = some (.pointer e)) (o1 o2 : Operand) (b p : Nat) : aBin Try.prog .eql t o1 o2 (.ptr b p) .nilp = some (.bool false) := by
  simp only [aBin, AVal.toV, aNilCmp, hu, nilRes]
theorem ptr_nil' {t e : TypeId} (hu : Try.prog.underlying t = some (.pointer e)) (o1 o2 : Operand) (b p : Nat) : aBin Try.prog .neq t o1 o2 (.ptr b p) .nilp = some (.bool true) := by
  simp only [aBin, AVal.toV, aNilCmp, hu, nilRes]
end Go.Proofs.Ytochkdifpgelmaa

/-! Marks and ids: what cells they are, and marks as keys. -/
namespace Go.Ab
open Go

structure Mk where
  sent : Bool
  c : Int
  f : Int
  s : Int
  deriving DecidableEq

def mkR : Rp Mk := ⟨4, by decide, fun _ cs x => cs = [.bool x.sent, I x.c, I x.f, I x.s], fun h => by rw [h]; rfl, fun h => by rw [h]; rfl, fun h _ => h⟩
def idR : Rp (Int × Int) := ⟨2, by decide, fun _ cs x => cs = [I x.1, I x.2], fun h => by rw [h]; rfl, fun h => by rw [h]; rfl, fun h _ => h⟩

theorem mk_at {h : Heap} {v : AVal} {xs : List Mk} (o : Sl mkR h v xs) {i : Nat} {x : Mk} (hx : xs[i]? = some x) :
    ∃ b p B, ixsR 4 v (.int .i64 (i : Int)) = some (.ptr b p) ∧ h.get b = some B ∧ p + 4 ≤ B.length ∧ (B.drop p).take 4 = [.bool x.sent, I x.c, I x.f, I x.s] ∧ h.isM b = false ∧
      B[p]? = some (.bool x.sent) ∧ B[p + 1]? = some (I x.c) ∧ B[p + 2]? = some (I x.f) ∧ B[p + 3]? = some (I x.s) := by
  obtain ⟨b, p, B, c, q1, q2, q3⟩ := o.at (n := 4) rfl (i := (i : Int)) (by omega) (by simpa using hx)
  have q3 : c = [.bool x.sent, I x.c, I x.f, I x.s] := q3
  subst q3
  exact ⟨b, p, B, q1, q2.get, q2.le, q2.eq, q2.isM, q2.cell0 (by simp), q2.cell (k := 1) (by simp), q2.cell (k := 2) (by simp), q2.cell (k := 3) (by simp)⟩
theorem id_at {h : Heap} {v : AVal} {xs : List (Int × Int)} (o : Sl idR h v xs) {i : Nat} {x : Int × Int} (hx : xs[i]? = some x) :
    ∃ b p B, ixsR 2 v (.int .i64 (i : Int)) = some (.ptr b p) ∧ h.get b = some B ∧ p + 2 ≤ B.length ∧ (B.drop p).take 2 = [I x.1, I x.2] ∧ h.isM b = false ∧ B[p]? = some (I x.1) ∧ B[p + 1]? = some (I x.2) := by
  obtain ⟨b, p, B, c, q1, q2, q3⟩ := o.at (n := 2) rfl (i := (i : Int)) (by omega) (by simpa using hx)
  have q3 : c = [I x.1, I x.2] := q3
  subst q3
  exact ⟨b, p, B, q1, q2.get, q2.le, q2.eq, q2.isM, q2.cell0 (by simp), q2.cell (k := 1) (by simp)⟩

theorem aBin_eql2 {P : Program} {t : TypeId} (h : isTwo P t = true) (x y : Operand) (a b m n : Int) : aBin P .eql t x y (.agg [I a, I b]) (.agg [I m, I n]) = some (.bool (a == m && b == n)) := by
  obtain ⟨f, g, hu, a1, a2, a3, a4, a5, a6, a7, a8⟩ := isTwo_of h
  have e := aPure_eqT h a b m n
  have gd : aPure P (eqGuard .eql t x y (.agg #[.int .i64 a, .int .i64 b]) (.agg #[.int .i64 m, .int .i64 n])) = some () := by
    simp only [eqGuard, Bool.not_true, Bool.false_eq_true, if_false, aPure_bind, aPure_prog, Option.bind_some, a8]
    rfl
  have bn : aPure P (binOp .eql t (.agg #[.int .i64 a, .int .i64 b]) (.agg #[.int .i64 m, .int .i64 n])) = some (.bool (a == m && b == n)) := by
    show aPure P (Op.equal t (.agg #[.int .i64 a, .int .i64 b]) (.agg #[.int .i64 m, .int .i64 n]) >>= fun r => pure (Value.bool r)) = _
    rw [aPure_bind, e]
    rfl
  have v1 : ∀ a b : Int, (AVal.agg [I a, I b]).toV = some (.agg #[.int .i64 a, .int .i64 b]) := fun a b => rfl
  simp only [aBin, v1, aPure_bind, gd, bn, Option.bind_some]
  rfl

/-! ### marks as keys -/

def mkV (m : Mk) : Value := .agg #[.bool m.sent, .int .i64 m.c, .int .i64 m.f, .int .i64 m.s]
def isBoolT : Option TypeDesc → Bool
  | some .bool => true
  | _ => false
theorem isBoolT_of : ∀ {d : Option TypeDesc}, isBoolT d = true → d = some .bool
  | some .bool, _ => rfl
def isMk (P : Program) (t : TypeId) : Bool := match P.underlying t with
  | some (.struct fs) => (match fs.toList with
    | [f0, f1, f2, f3] => f0.name != "_" && (f1.name != "_" && (f2.name != "_" && (f3.name != "_" && (f0.offset == 0 && (f1.offset == 1 && (f2.offset == 2 && (f3.offset == 3 &&
        (isBoolT (P.underlying f0.type) && (isI64 (P.underlying f1.type) && (isI64 (P.underlying f2.type) && (isI64 (P.underlying f3.type) && !P.stoodInHeld t)))))))))))
    | _ => false)
  | _ => false
structure MkT (P : Program) (t : TypeId) (f0 f1 f2 f3 : Field) : Prop where
  hu : P.underlying t = some (.struct #[f0, f1, f2, f3])
  n0 : f0.name ≠ "_"
  n1 : f1.name ≠ "_"
  n2 : f2.name ≠ "_"
  n3 : f3.name ≠ "_"
  o0 : f0.offset = 0
  o1 : f1.offset = 1
  o2 : f2.offset = 2
  o3 : f3.offset = 3
  u0 : P.underlying f0.type = some .bool
  u1 : P.underlying f1.type = some (.int .i64)
  u2 : P.underlying f2.type = some (.int .i64)
  u3 : P.underlying f3.type = some (.int .i64)
  hs : P.stoodInHeld t = false
theorem isMk_of {P : Program} {t : TypeId} (h : isMk P t = true) : ∃ f0 f1 f2 f3 : Field, MkT P t f0 f1 f2 f3 := by
  unfold isMk at h
  split at h
  · rename_i fs hu
    split at h
    · rename_i f0 f1 f2 f3 hl
      have : fs = #[f0, f1, f2, f3] := by rw [← Array.toList_inj]; exact hl
      subst this
      simp only [Bool.and_eq_true, bne_iff_ne, beq_iff_eq, Bool.not_eq_true'] at h
      obtain ⟨a1, a2, a3, a4, a5, a6, a7, a8, a9, a10, a11, a12, a13⟩ := h
      exact ⟨f0, f1, f2, f3, hu, a1, a2, a3, a4, a5, a6, a7, a8, isBoolT_of a9, isI64_of a10, isI64_of a11, isI64_of a12, a13⟩
    · cases h
  · cases h
theorem aPure_eqBoolM {P : Program} {t : TypeId} (h : P.underlying t = some .bool) (d : Nat) (a b : Bool) : aPure P (Op.equalIn (d + 1) t (.bool a) (.bool b)) = some (a == b) := by
  simp only [Op.equalIn, aPure_bind, aPure_und h, Option.bind_some]
  simp [aPure_pure]
theorem aPure_partBM {P : Program} {t : TypeId} (h : P.underlying t = some .bool) {cs : Array Value} {off : Nat} {v : Value} (hv : cs[off]? = some v) : aPure P (part t cs off) = some v := by
  simp only [part, isAgg, aPure_bind, aPure_und h, Option.bind_some]
  simp [aPure_pure, hv]
section
variable {P : Program} {t : TypeId} {f0 f1 f2 f3 : Field}
theorem MkT.p0 (T : MkT P t f0 f1 f2 f3) (m : Mk) : aPure P (part f0.type #[.bool m.sent, .int .i64 m.c, .int .i64 m.f, .int .i64 m.s] 0) = some (.bool m.sent) := aPure_partBM T.u0 rfl
theorem MkT.p1 (T : MkT P t f0 f1 f2 f3) (m : Mk) : aPure P (part f1.type #[.bool m.sent, .int .i64 m.c, .int .i64 m.f, .int .i64 m.s] 1) = some (.int .i64 m.c) := aPure_part T.u1 rfl
theorem MkT.p2 (T : MkT P t f0 f1 f2 f3) (m : Mk) : aPure P (part f2.type #[.bool m.sent, .int .i64 m.c, .int .i64 m.f, .int .i64 m.s] 2) = some (.int .i64 m.f) := aPure_part T.u2 rfl
theorem MkT.p3 (T : MkT P t f0 f1 f2 f3) (m : Mk) : aPure P (part f3.type #[.bool m.sent, .int .i64 m.c, .int .i64 m.f, .int .i64 m.s] 3) = some (.int .i64 m.s) := aPure_part T.u3 rfl
theorem MkT.eq (T : MkT P t f0 f1 f2 f3) (d : Nat) (m n : Mk) : aPure P (Op.equalIn (d + 2) t (mkV m) (mkV n)) = some (decide (m = n)) := by
  unfold mkV
  rw [Op.equalIn]
  simp only [aPure_bind, aPure_und T.hu, aPure_prog, Option.bind_some, T.hs]
  have q0 := fun x y => aPure_eqBoolM T.u0 d x y
  have q1 := fun x y => aPure_eqInt T.u1 d x y
  have q2 := fun x y => aPure_eqInt T.u2 d x y
  have q3 := fun x y => aPure_eqInt T.u3 d x y
  have hd : decide (m = n) = (m.sent == n.sent && (m.c == n.c && (m.f == n.f && m.s == n.s))) := by
    obtain ⟨a0, a1, a2, a3⟩ := m
    obtain ⟨b0, b1, b2, b3⟩ := n
    by_cases c0 : a0 = b0 <;> by_cases c1 : a1 = b1 <;> by_cases c2 : a2 = b2 <;> by_cases c3 : a3 = b3 <;> simp [c0, c1, c2, c3]
  rw [hd]
  cases c0 : (m.sent == n.sent)
  · simp [T.n0, T.o0, aPure_bind, aPure_pure, T.p0, q0, c0]
  cases c1 : (m.c == n.c)
  · simp [T.n0, T.o0, T.n1, T.o1, aPure_bind, aPure_pure, T.p0, q0, c0, T.p1, q1, c1]
  cases c2 : (m.f == n.f)
  · simp [T.n0, T.o0, T.n1, T.o1, T.n2, T.o2, aPure_bind, aPure_pure, T.p0, q0, c0, T.p1, q1, c1, T.p2, q2, c2]
  cases c3 : (m.s == n.s) <;> simp [T.n0, T.o0, T.n1, T.o1, T.n2, T.o2, T.n3, T.o3, aPure_bind, aPure_pure, T.p0, q0, c0, T.p1, q1, c1, T.p2, q2, c2, T.p3, q3, c3]
theorem MkT.check (T : MkT P t f0 f1 f2 f3) (em : Bool) (d : Nat) (m : Mk) : aPure P (Instr.checkKey em (d + 2) t (mkV m)) = some () := by
  have e0 : ∀ x, aPure P (Instr.checkKey em (d + 1) f0.type (.bool x)) = some () := fun x => by
    simp only [Instr.checkKey, aPure_bind, aPure_und T.u0, Option.bind_some]
    rfl
  unfold mkV
  rw [Instr.checkKey]
  simp [aPure_bind, aPure_und T.hu, T.n0, T.n1, T.n2, T.n3, T.o0, T.o1, T.o2, T.o3, T.p0, T.p1, T.p2, T.p3, e0, checkInt T.u1, checkInt T.u2, checkInt T.u3, aPure_pure]
end
theorem sameMk (d : Nat) (m : Mk) : Instr.sameBits (d + 1) (mkV m) (mkV m) = true := by
  have hb : ∀ x, Instr.sameBits d (.bool x) (.bool x) = true := fun x => by cases d <;> simp [Instr.sameBits]
  simp [mkV, Instr.sameBits, sameInt, hb]
/-- Marks. -/
def kMark (P : Program) (kt : TypeId) (ht : isMk P kt = true) : Kk P kt Mk where
  enc := fun m => .agg [.bool m.sent, I m.c, I m.f, I m.s]
  kv := mkV
  tv := fun _ => rfl
  find := fun ks a => by
    obtain ⟨f0, f1, f2, f3, T⟩ := isMk_of ht
    have hf := find_asking (P := P) (kt := kt) (kv := mkV) (fun a c => T.eq 9998 a c) a ks 0
    have h2 : aPure P (Instr.findKey kt (mkV a) (mpE mkV ks)) = some (if a ∈ ks then some (idxK ks a, .nilFunc) else none) := by
      simp only [Instr.findKey, aPure_bind, aPure_und T.hu, Option.bind_some]
      cases ks with
      | nil => rfl
      | cons c r =>
        have : Instr.findNow (.struct #[f0, f1, f2, f3]) (mkV a) (mpE mkV (c :: r)) 0 = none := rfl
        rw [this]
        simpa using hf
    rw [aPure_bind, show aPure P (Instr.checkKey (mpE mkV ks).isEmpty 10000 kt (mkV a)) = some () from T.check _ 9998 a]
    exact h2
  ok := fun a => by
    obtain ⟨f0, f1, f2, f3, T⟩ := isMk_of ht
    simp only [keyOk, show aPure P (Instr.checkKey false 10000 kt (mkV a)) = some () from T.check _ 9998 a]
  same := fun a => sameMk 9999 a
section
variable {P : Program} {kt et t : TypeId} {h : Heap} {b : Nat}
theorem Mp.look2 {ks : List (Int × Int)} {f : Int × Int → Int} {h2 : isTwo P kt = true} (m : Mp (kTwo P kt h2) h b ks f) (ht : mapTypes P t = some (kt, et)) (hz : tZero P et = some (I 0)) (a : Int × Int) : aLookup P h t (.mp b) (.agg [I a.1, I a.2]) false = some (I (f a)) := m.look ht hz a
theorem Mp.look4 {ks : List Mk} {f : Mk → Int} {h2 : isMk P kt = true} (m : Mp (kMark P kt h2) h b ks f) (ht : mapTypes P t = some (kt, et)) (hz : tZero P et = some (I 0)) (a : Mk) : aLookup P h t (.mp b) (.agg [.bool a.sent, I a.c, I a.f, I a.s]) false = some (I (f a)) := m.look ht hz a
theorem Mp.look1 {ks : List Int} {f : Int → Int} {h2 : P.underlying kt = some (.int .i64)} (m : Mp (kInt P kt h2) h b ks f) (ht : mapTypes P t = some (kt, et)) (hz : tZero P et = some (I 0)) (a : Int) : aLookup P h t (.mp b) (I a) false = some (I (f a)) := m.look ht hz a
theorem Mp.look1Ok {ks : List Int} {f : Int → Int} {h2 : P.underlying kt = some (.int .i64)} (m : Mp (kInt P kt h2) h b ks f) (ht : mapTypes P t = some (kt, et)) (hz : tZero P et = some (I 0)) (a : Int) : aLookup P h t (.mp b) (I a) true = some (.tup [I (f a), .bool (decide (a ∈ ks))]) := m.lookOk ht hz a
end
end Go.Ab

/-! What trace's id, ahead, Heard tell. -/
namespace Go.Proofs.Ytochkdifpgelmaa
open Go.Ab

def mkC (m : Mk) : List AVal := [.bool m.sent, I m.c, I m.f, I m.s]
def idC (x : Int × Int) : List AVal := [I x.1, I x.2]
def mid (m : Mk) : Int × Int := if m.sent = true then (m.c, m.s) else (m.f, m.s)
def lt2 (a b : Int × Int) : Bool := decide (a.1 < b.1) || (decide (a.1 = b.1) && decide (a.2 < b.2))
def heardBy (c : Int) (m : Mk) : Bool := !m.sent && decide (m.c = c)
def heardL (l : List Mk) (c : Int) : List (Int × Int) := (l.filter (heardBy c)).map mid
theorem heardL_app (l k : List Mk) (c : Int) : heardL (l ++ k) c = heardL l c ++ heardL k c := by simp [heardL]
theorem heardL_len (l : List Mk) (c : Int) : (heardL l c).length ≤ l.length := by
  rw [heardL, List.length_map]; exact List.length_filter_le _ _

section
variable {X : XTab}
theorem trace_id (hX : OnlyKnown X) (m : Mk) (h : Heap) : Tells (fun q => acallX Try.prog X q F_trace_id [.agg (mkC m)] h) fun v h' => v = .agg (idC (mid m)) ∧ Ext [] h h' := by
  refine R_trace_id _ (hX _ _ rfl) ?_
  refine Tells.prot fun Q' hQ => ?_
  unfold S_trace_id
  simp
  refine Tells.box (cs := mkC m) (by rfl) (by rfl) fun h1 b1 o1 x1 l1 => ?_
  refine Tells.new fun h2 b2 o2 x2 l2 => ?_
  have o1' := o1.e x2
  have hne : b2 ≠ b1 := by have := o1.lt; omega
  simp [o1'.1, mkC]
  refine Tells.cb (fun hc => ?_) (fun hc => ?_)
  · simp [bldR, fillR, splice]
    refine Tells.stN o2 (ds := [I m.c, I m.s]) (by rfl) (by rfl) (by rfl) (by rfl) fun h3 o3 x3 => ?_
    simp [C_trace_id_0, o3.1]
    exact Tells.ok (hQ _ _ ⟨by simp [mid, hc, idC], (x1.trans x2).then x3 (by simp; have := x1.next; omega)⟩)
  · simp [J_trace_id_0, o1'.1, mkC, bldR, fillR, splice]
    refine Tells.stN o2 (ds := [I m.f, I m.s]) (by rfl) (by rfl) (by rfl) (by rfl) fun h3 o3 x3 => ?_
    simp [C_trace_id_0, o3.1]
    exact Tells.ok (hQ _ _ ⟨by simp [mid, hc, idC], (x1.trans x2).then x3 (by simp; have := x1.next; omega)⟩)

theorem trace_ahead (hX : OnlyKnown X) (a b : Int × Int) (h : Heap) : Tells (fun q => acallX Try.prog X q F_trace_ahead [.agg (idC a), .agg (idC b)] h) fun v h' => v = .bool (lt2 a b) ∧ Ext [] h h' := by
  refine R_trace_ahead _ _ (hX _ _ rfl) ?_
  refine Tells.prot fun Q' hQ => ?_
  unfold S_trace_ahead
  simp
  refine Tells.box (cs := idC a) (by rfl) (by rfl) fun h1 b1 o1 x1 l1 => ?_
  refine Tells.box (cs := idC b) (by rfl) (by rfl) fun h2 b2 o2 x2 l2 => ?_
  have o1' := o1.e x2
  simp [o1'.1, o2.1, idC]
  by_cases q1 : a.1 < b.1
  · simp [q1]
    exact Tells.ok (hQ _ _ ⟨by simp [lt2, q1], x1.trans x2⟩)
  · by_cases q2 : a.1 = b.1
    · simp [q1, q2, o1'.1, o2.1, idC]
      refine Tells.ok (hQ _ _ ⟨?_, x1.trans x2⟩)
      simp [lt2, q2]
    · have q2' : (a.1 == b.1) = false := by simpa using q2
      simp [q1, q2', o1'.1, o2.1, idC]
      refine Tells.ok (hQ _ _ ⟨?_, x1.trans x2⟩)
      simp [lt2, q1, q2]

theorem trace_Heard (hX : OnlyKnown X) {h : Heap} {v : AVal} {l : List Mk} (o : Sl mkR h v l) (hl : l.length ≤ 100) (c : Int) : Tells (fun q => acallX Try.prog X q F_trace_Heard [v, I c] h) fun r h' => Gl idR h h' r (heardL l c) ∧ Ext [] h h' := by
  refine R_trace_Heard _ _ (hX _ _ rfl) ?_
  refine Tells.prot fun Q' hQ => ?_
  unfold S_trace_Heard
  simp [o.len]
  refine Tells.bind (Tells.loop (fun n t g => ∃ i : Nat, t 1 = I c ∧ t 8 = v ∧ t 9 = I l.length ∧ t 10 = I i ∧ i + n = l.length ∧ Gl idR h g (t 5) (heardL (l.take i) c) ∧ Ext [] h g)
    (Q := fun p g => p.1 = .exit 0 ∧ Gl idR h g (p.2 5) (heardL l c) ∧ Ext [] h g) ?_ l.length _ _ ?_) ?_
  · rintro n t g ⟨i, t1, t8, t9, t10, hi, go, x⟩
    refine Tells.prot fun Q2 hQ2 => ?_
    unfold L_trace_Heard_1
    simp [t10, t9]
    refine Tells.cb (fun hc => ?_) (fun hc => ?_)
    · simp at hc
      obtain ⟨m, hm⟩ : ∃ m, l[i]? = some m := ⟨_, List.getElem?_eq_getElem hc⟩
      obtain ⟨b, p, B, q1, q2, q3, q4, q5, q6, q7, q8, q9⟩ := mk_at (o.ext x) hm
      have htake : heardL (l.take (i + 1)) c = heardL (l.take i) c ++ heardL [m] c := by rw [List.take_add_one, hm, ← heardL_app]; rfl
      have w : IntKind.i64.wrap ((i : Int) + 1) = i + 1 := wrap_id (by omega) (by omega)
      simp [J_trace_Heard_2, t8, t10, q1, q2, q3, q4]
      refine Tells.newSt (ds := mkC m) (by rfl) (by rfl) (by rfl) (by rfl) fun h1 b1 o1 x1 l1 => ?_
      simp [o1.1, mkC, t1]
      by_cases k1 : m.sent = true
      · simp [k1, J_trace_Heard_3, t10, w]
        refine Tells.ok (hQ2 _ _ (.inl ⟨rfl, n - 1, by omega, i + 1, by simp [t1], by simp [t8], by simp [t9], by simp, by omega, ?_, x.trans x1⟩))
        rw [htake]
        simpa [heardL, heardBy, k1] using go.e x1
      · have k1' : m.sent = false := by simpa using k1
        by_cases k2 : m.c = c
        · simp [k1', k2, o1.1, mkC]
          refine Tells.bind (by simpa [mkC, k1', k2] using trace_id hX m h1) ?_
          rintro _ h2 ⟨rfl, x2⟩
          try simp
          refine Tells.app1 (r := idR) ((go.e x1).e x2) (by rfl) (by rfl) (x := mid m) (by rfl) (by rfl) (by rfl) (by have := heardL_len (l.take i) c; simp at this; omega) (by decide) ((x.trans x1).trans x2).next fun s3 h3 g3 x3 y3 z3 => ?_
          simp [J_trace_Heard_3, t10, w]
          refine Tells.ok (hQ2 _ _ (.inl ⟨rfl, n - 1, by omega, i + 1, by simp [t1], by simp [t8], by simp [t9], by simp, by omega, ?_, y3 _ ((x.trans x1).trans x2)⟩))
          rw [htake]
          simpa [heardL, heardBy, k1', k2] using g3
        · have k2' : (m.c == c) = false := by simpa using k2
          simp [k1', k2', o1.1, mkC, t1, J_trace_Heard_3, t10, w]
          refine Tells.ok (hQ2 _ _ (.inl ⟨rfl, n - 1, by omega, i + 1, by simp [t1], by simp [t8], by simp [t9], by simp, by omega, ?_, x.trans x1⟩))
          rw [htake]
          simpa [heardL, heardBy, k1', k2] using go.e x1
    · simp at hc
      refine Tells.ok (hQ2 _ _ (.inr ⟨by simp, rfl, ?_, x⟩))
      rw [List.take_of_length_le (by omega)] at go
      simpa using go
  · exact ⟨0, by simp, by simp, by simp, by simp, by omega, by simpa [heardL] using Gl.nil, .refl⟩
  · rintro ⟨ex, t⟩ g ⟨rfl, go, x⟩
    simp [J_trace_Heard_0]
    exact Tells.ok (hQ _ _ ⟨go, x⟩)
end
end Go.Proofs.Ytochkdifpgelmaa

/-! What trace's Once tells. -/
namespace Go.Proofs.Ytochkdifpgelmaa
open Go.Ab

def sentC (p : List Mk) (x : Int × Int) : Int := ((p.filter fun k => k.sent && decide (mid k = x)).length : Nat)
def heardC (p : List Mk) (m : Mk) : Int := ((p.filter fun k => !k.sent && decide (k = m)).length : Nat)
def okM (p : List Mk) (m : Mk) : Bool := if m.sent = true then decide (sentC p (mid m) = 0) else decide (heardC p m = 0) && !decide (sentC p (mid m) = 0)
def onceG : List Mk → List Mk → Bool
  | _, [] => true
  | p, m :: r => okM p m && onceG (p ++ [m]) r
def once (l : List Mk) : Bool := onceG [] l

theorem sentC_app (p : List Mk) (m : Mk) : sentC (p ++ [m]) = if m.sent = true then updF (sentC p) (mid m) (sentC p (mid m) + 1) else sentC p := by
  funext x
  by_cases hs : m.sent = true
  · rw [if_pos hs]
    unfold updF
    by_cases q : x = mid m
    · subst q; rw [if_pos rfl]; simp [sentC, hs]
    · rw [if_neg q]
      have q' : ¬ mid m = x := fun z => q z.symm
      simp [sentC, List.filter_append, List.filter, q']
  · rw [if_neg hs]
    simp [sentC, List.filter_append, List.filter, hs]
theorem heardC_app (p : List Mk) (m : Mk) : heardC (p ++ [m]) = if m.sent = true then heardC p else updF (heardC p) m (heardC p m + 1) := by
  funext x
  by_cases hs : m.sent = true
  · rw [if_pos hs]
    simp [heardC, List.filter_append, List.filter, hs]
  · rw [if_neg hs]
    unfold updF
    by_cases q : x = m
    · subst q; rw [if_pos rfl]; simp [heardC, hs]
    · rw [if_neg q]
      have q' : ¬ m = x := fun z => q z.symm
      simp [heardC, List.filter_append, List.filter, q']
theorem sentC_le (p : List Mk) (x : Int × Int) : 0 ≤ sentC p x ∧ sentC p x ≤ p.length := by
  unfold sentC
  have := List.length_filter_le (fun k : Mk => k.sent && decide (mid k = x)) p
  omega
theorem heardC_le (p : List Mk) (x : Mk) : 0 ≤ heardC p x ∧ heardC p x ≤ p.length := by
  unfold heardC
  have := List.length_filter_le (fun k : Mk => !k.sent && decide (k = x)) p
  omega
theorem onceG_at {p r : List Mk} {m : Mk} : onceG p (m :: r) = (okM p m && onceG (p ++ [m]) r) := rfl

theorem two30 : isTwo Try.prog 30 = true := by kernel_rfl
theorem mk23 : isMk Try.prog 23 = true := by kernel_rfl
theorem mt47 : mapTypes Try.prog 47 = some (30, 3) := by kernel_rfl
theorem mt54 : mapTypes Try.prog 54 = some (23, 3) := by kernel_rfl
theorem mt46 : mapTypes Try.prog 46 = some (3, 3) := by kernel_rfl
theorem tz3 : tZero Try.prog 3 = some (I 0) := by kernel_rfl

section
variable {X : XTab}
theorem trace_Once (hX : OnlyKnown X) {h : Heap} {v : AVal} {l : List Mk} (o : Sl mkR h v l) (hl : l.length ≤ 100) : Tells (fun q => acallX Try.prog X q F_trace_Once [v] h) fun r h' => r = .bool (once l) ∧ Ext [] h h' := by
  refine R_trace_Once _ (hX _ _ rfl) ?_
  refine Tells.prot fun Q' hQ => ?_
  unfold S_trace_Once
  simp
  obtain ⟨m1, x1⟩ := Mp.make (K := (kTwo Try.prog 30 two30)) h
  obtain ⟨m2, x2⟩ := Mp.make (K := (kMark Try.prog 23 mk23)) (h.new true [])
  have ol := (o.ext x1).ext x2
  have lt1 : h.next < (h.new true []).next := m1.ob.lt
  have lt2' : h.next < ((h.new true []).new true []).next := Nat.lt_of_lt_of_le lt1 x2.next
  simp [o.len]
  refine Tells.bind (Tells.loop (fun n t g => ∃ (i : Nat) (k1 : List (Int × Int)) (k2 : List Mk), t 3 = .mp h.next ∧ t 4 = .mp (h.new true []).next ∧ t 10 = v ∧ t 11 = I l.length ∧ t 12 = I i ∧ i + n = l.length ∧
      Mp (kTwo Try.prog 30 two30) g h.next k1 (sentC (l.take i)) ∧ Mp (kMark Try.prog 23 mk23) g (h.new true []).next k2 (heardC (l.take i)) ∧ Ext [] h g ∧ Sl mkR g v l ∧ onceG (l.take i) (l.drop i) = once l)
    (Q := fun p g => Ext [] h g ∧ (p.1 = .exit 0 ∧ once l = true ∨ p.1 = .ret ∧ p.2 2 = .bool false ∧ once l = false)) ?_ l.length _ _ ?_) ?_
  · rintro n t g ⟨i, k1, k2, t3, t4, t10, t11, t12, hi, M1, M2, x, og, hon⟩
    refine Tells.prot fun Q2 hQ2 => ?_
    unfold L_trace_Once_1
    simp [t12, t11]
    refine Tells.cb (fun hc => ?_) (fun hc => ?_)
    · simp at hc
      obtain ⟨m, hm⟩ : ∃ m, l[i]? = some m := ⟨_, List.getElem?_eq_getElem hc⟩
      obtain ⟨b, p, B, q1, q2, q3, q4, q5, q6, q7, q8, q9⟩ := mk_at og hm
      have htk : l.take (i + 1) = l.take i ++ [m] := by rw [List.take_add_one, hm]; rfl
      have hdr : l.drop i = m :: l.drop (i + 1) := by
        rw [List.drop_eq_getElem_cons hc]
        rw [List.getElem?_eq_getElem hc] at hm
        cases hm; rfl
      rw [hdr, onceG_at, ← htk] at hon
      have w : IntKind.i64.wrap ((i : Int) + 1) = i + 1 := wrap_id (by omega) (by omega)
      have hli : (l.take i).length ≤ 100 := by simp; omega
      simp [J_trace_Once_2, t10, t12, q1, q2, q3, q4]
      refine Tells.newSt (ds := mkC m) (by rfl) (by rfl) (by rfl) (by rfl) fun g1 bm o1 y1 l1 => ?_
      simp [o1.1, mkC]
      refine Tells.bind (by simpa [mkC] using trace_id hX m g1) ?_
      rintro _ g2 ⟨rfl, y2⟩
      try simp
      refine Tells.newSt (ds := idC (mid m)) (by rfl) (by rfl) (by rfl) (by rfl) fun g3 bx o3 y3 l3 => ?_
      have om := (o1.e y2).e y3
      have N1 := ((M1.e y1).e y2).e y3
      have N2 := ((M2.e y1).e y2).e y3
      have y := ((x.trans y1).trans y2).trans y3
      have on := ((og.ext y1).ext y2).ext y3
      have hb1 : h.next < g.next := M1.ob.lt
      have hb2 : (h.new true []).next < g.next := M2.ob.lt
      have nx1 := y1.next
      have nx2 := y2.next
      simp [om.1, mkC]
      by_cases ks : m.sent = true
      · have s1 := sentC_le (l.take i) (mid m)
        simp [ks, t3, o3.1, idC]
        refine Tells.inc N1 mt47 tz3 (a := mid m) (κ := .agg [I (mid m).1, I (mid m).2]) (by rfl) ⟨by omega, by omega⟩ fun g4 N4 y4 => ?_
        have o5 := o3.ext y4 (by simp; omega)
        have e4' := N4.look2 mt47 tz3 (mid m)
        rw [show updF (sentC (l.take i)) (mid m) (sentC (l.take i) (mid m) + 1) (mid m) = sentC (l.take i) (mid m) + 1 from if_pos rfl] at e4'
        have y04 := y.then y4 (by simp)
        have sc : sentC (l.take (i + 1)) = updF (sentC (l.take i)) (mid m) (sentC (l.take i) (mid m) + 1) := by rw [htk, sentC_app, if_pos ks]
        have hcc : heardC (l.take (i + 1)) = heardC (l.take i) := by rw [htk, heardC_app, if_pos ks]
        simp [o5.1, idC, e4']
        refine Tells.cb (fun hd => ?_) (fun hd => ?_)
        · simp at hd
          have : okM (l.take i) m = false := by simp [okM, ks]; omega
          rw [this] at hon
          refine Tells.ok (hQ2 _ _ (.inr ⟨by simp, y04, .inr ⟨rfl, by simp, by simpa using hon.symm⟩⟩))
        · simp at hd
          have : okM (l.take i) m = true := by simp [okM, ks]; omega
          rw [this] at hon
          simp [J_trace_Once_5, J_trace_Once_3, t12, w]
          refine Tells.ok (hQ2 _ _ (.inl ⟨rfl, n - 1, by omega, i + 1, _, _, by simp [t3], by simp [t4], by simp [t10], by simp [t11], by simp, by omega, by rw [sc]; exact N4, by rw [hcc]; exact N2.ext y4 (by simp; omega), y04, on.ext y4, by simpa using hon⟩))
      · have ks' : m.sent = false := by simpa using ks
        have s1 := sentC_le (l.take i) (mid m)
        have s2 := heardC_le (l.take i) m
        simp [ks', J_trace_Once_4, t4, t3, om.1, mkC]
        refine Tells.inc N2 mt54 tz3 (a := m) (κ := .agg [.bool false, I m.c, I m.f, I m.s]) (by simp [kMark, ks']) ⟨by omega, by omega⟩ fun g4 N4 y4 => ?_
        have o5 := o3.ext y4 (by simp; omega)
        have o6 := om.ext y4 (by simp; omega)
        have N5 := N1.ext y4 (by simp; omega)
        have e4' := N4.look4 mt54 tz3 m
        rw [show updF (heardC (l.take i)) m (heardC (l.take i) m + 1) m = heardC (l.take i) m + 1 from if_pos rfl, ks'] at e4'
        have e5' := N5.look2 mt47 tz3 (mid m)
        have y04 := y.then y4 (by simp; omega)
        have sc : sentC (l.take (i + 1)) = sentC (l.take i) := by rw [htk, sentC_app, if_neg ks]
        have hcc : heardC (l.take (i + 1)) = updF (heardC (l.take i)) m (heardC (l.take i) m + 1) := by rw [htk, heardC_app, if_neg ks]
        simp [t4, t3, o6.1, mkC, ks', e4']
        by_cases hd : heardC (l.take i) m = 0
        · have hd' : ¬ 1 < heardC (l.take i) m + 1 := by omega
          by_cases he : sentC (l.take i) (mid m) = 0
          · have he' : (sentC (l.take i) (mid m) == 0) = true := by simpa using he
            have : okM (l.take i) m = false := by simp [okM, ks', he]
            rw [this] at hon
            simp [hd', o5.1, idC, t3, e5', he']
            refine Tells.ok (hQ2 _ _ (.inr ⟨by simp, y04, .inr ⟨rfl, by simp, by simpa using hon.symm⟩⟩))
          · have he' : (sentC (l.take i) (mid m) == 0) = false := by simpa using he
            have : okM (l.take i) m = true := by simp [okM, ks', he, hd]
            rw [this] at hon
            simp [hd', o5.1, idC, t3, e5', he', J_trace_Once_3, t12, w]
            refine Tells.ok (hQ2 _ _ (.inl ⟨rfl, n - 1, by omega, i + 1, _, _, by simp [t3], by simp [t4], by simp [t10], by simp [t11], by simp, by omega, by rw [sc]; exact N5, by rw [hcc]; exact N4, y04, on.ext y4, by simpa using hon⟩))
        · have hd' : 1 < heardC (l.take i) m + 1 := by omega
          have : okM (l.take i) m = false := by simp [okM, ks', hd]
          rw [this] at hon
          simp [hd']
          refine Tells.ok (hQ2 _ _ (.inr ⟨by simp, y04, .inr ⟨rfl, by simp, by simpa using hon.symm⟩⟩))
    · simp at hc
      rw [List.drop_of_length_le (by omega)] at hon
      exact Tells.ok (hQ2 _ _ (.inr ⟨by simp, x, .inl ⟨rfl, hon.symm⟩⟩))
  · exact ⟨0, [], [], by simp, by simp, by simp, by simp, by simp, by omega, m1.e x2, m2, x1.trans x2, ol, by simp [once]⟩
  · rintro ⟨ex, t⟩ g ⟨x, ⟨rfl, ho⟩ | ⟨rfl, t2, ho⟩⟩
    · simp [J_trace_Once_0]
      exact Tells.ok (hQ _ _ ⟨by rw [ho], x⟩)
    · simp
      refine Tells.ok (hQ _ _ ⟨?_, x⟩)
      rw [ho]; exact t2
end
end Go.Proofs.Ytochkdifpgelmaa

/-! What trace's rows tells. -/
namespace Go.Proofs.Ytochkdifpgelmaa
open Go.Ab

theorem list_end {α : Type} {P : List α → Prop} (h0 : P []) (h1 : ∀ l x, P l → P (l ++ [x])) (l : List α) : P l := by
  have : ∀ n, ∀ l : List α, l.length = n → P l := by
    intro n
    induction n with
    | zero => intro l h; rw [List.eq_nil_of_length_eq_zero h]; exact h0
    | succ n ih =>
      intro l h
      have hne : l ≠ [] := by intro q; subst q; simp at h
      rw [← List.dropLast_concat_getLast hne]
      exact h1 _ _ (ih _ (by simp [h]))
  exact this _ l rfl
/-- Each once, where it came first. -/
def ddF {α : Type} [DecidableEq α] (l : List α) : List α := l.foldl insK []
section
variable {α : Type} [DecidableEq α]
theorem ddF_app (l : List α) (x : α) : ddF (l ++ [x]) = insK (ddF l) x := by simp [ddF]
theorem mem_ddF (l : List α) (x : α) : x ∈ ddF l ↔ x ∈ l := by
  induction l using list_end with
  | h0 => simp [ddF]
  | h1 l y ih => rw [ddF_app, mem_insK, ih]; simp [or_comm]
theorem nodup_ddF (l : List α) : (ddF l).Nodup := by
  induction l using list_end with
  | h0 => simp [ddF]
  | h1 l y ih => rw [ddF_app]; exact nodup_insK ih
theorem insK_in {l : List α} {x : α} (h : x ∈ l) : insK l x = l := if_pos h
theorem insK_new {l : List α} {x : α} (h : x ∉ l) : insK l x = l ++ [x] := if_neg h
theorem ddF_len (l : List α) : (ddF l).length ≤ l.length := by
  induction l using list_end with
  | h0 => simp [ddF]
  | h1 l y ih =>
    rw [ddF_app]
    unfold insK
    split
    · simp; omega
    · simp; omega
theorem idxK_app {l : List α} {x : α} (h : x ∉ l) : idxK (l ++ [x]) x = l.length := by unfold idxK; rw [List.idxOf_append, if_neg h]; simp
theorem idxK_old {l m : List α} {x : α} (h : x ∈ l) : idxK (l ++ m) x = idxK l x := by unfold idxK; rw [List.idxOf_append, if_pos h]
theorem idxK_lt {l : List α} {x : α} (h : x ∈ l) : idxK l x < l.length := List.idxOf_lt_length_iff.2 h
theorem idxK_of {l : List α} (hn : l.Nodup) {i : Nat} {x : α} (h : l[i]? = some x) : idxK l x = i := by
  have hm := List.mem_of_getElem? h
  have hl := idxK_lt hm
  have hi := (List.getElem?_eq_some_iff.1 h).1
  have h2 := idx_at hm
  exact (List.getElem?_inj hl hn).1 (by rw [h2, h])
end

def cliF (l : List Mk) : List Int := ddF ((l.filter fun m => !m.sent).map (·.c))
def firF (l : List Mk) (c : Int) : List (Int × Int) := ddF (heardL l c)
def rowsF (l : List Mk) : List (List (Int × Int)) := (cliF l).map (firF l)
def seenC (p : List Mk) (m : Mk) : Int := if m.sent = false ∧ m ∈ p then 1 else 0
def plcC (p : List Mk) (c : Int) : Int := if c ∈ cliF p then (idxK (cliF p) c : Nat) else 0

theorem cliF_sent (l : List Mk) {m : Mk} (h : m.sent = true) : cliF (l ++ [m]) = cliF l := by simp [cliF, List.filter_append, List.filter, h]
theorem cliF_heard (l : List Mk) {m : Mk} (h : m.sent = false) : cliF (l ++ [m]) = insK (cliF l) m.c := by simp [cliF, List.filter_append, List.filter, h, ddF_app]
theorem firF_sent (l : List Mk) {m : Mk} (h : m.sent = true) (c : Int) : firF (l ++ [m]) c = firF l c := by simp [firF, heardL, heardBy, List.filter_append, List.filter, h]
theorem firF_heard (l : List Mk) {m : Mk} (h : m.sent = false) : firF (l ++ [m]) m.c = insK (firF l m.c) (mid m) := by simp [firF, heardL, heardBy, List.filter_append, List.filter, h, ddF_app]
theorem firF_other (l : List Mk) {m : Mk} {c : Int} (h : m.c ≠ c) : firF (l ++ [m]) c = firF l c := by simp [firF, heardL, heardBy, List.filter_append, List.filter, h]
theorem mem_heardL {l : List Mk} {m : Mk} (h : m.sent = false) : mid m ∈ heardL l m.c ↔ m ∈ l := by
  simp only [heardL, List.mem_map, List.mem_filter, heardBy, Bool.and_eq_true, Bool.not_eq_true', decide_eq_true_eq]
  constructor
  · rintro ⟨k, ⟨k1, k2, k3⟩, k4⟩
    obtain ⟨a, b, c, d⟩ := k
    obtain ⟨e, f, g, i⟩ := m
    simp only at k2 k3 h
    subst k2; subst k3; subst h
    simp [mid] at k4
    rw [k4.1, k4.2] at k1
    exact k1
  · exact fun k => ⟨m, ⟨k, h, rfl⟩, rfl⟩
theorem firF_mem {l : List Mk} {m : Mk} (h : m.sent = false) : mid m ∈ firF l m.c ↔ m ∈ l := by rw [firF, mem_ddF, mem_heardL h]
theorem mem_cliF {l : List Mk} {c : Int} : c ∈ cliF l ↔ ∃ m, m ∈ l ∧ m.sent = false ∧ m.c = c := by
  simp only [cliF, mem_ddF, List.mem_map, List.mem_filter, Bool.not_eq_true']
  exact ⟨fun ⟨m, ⟨a, b⟩, d⟩ => ⟨m, a, b, d⟩, fun ⟨m, a, b, d⟩ => ⟨m, ⟨a, b⟩, d⟩⟩
theorem firF_nil {l : List Mk} {c : Int} (h : c ∉ cliF l) : firF l c = [] := by
  have : heardL l c = [] := by
    rw [heardL, List.map_eq_nil_iff, List.filter_eq_nil_iff]
    intro m hm q
    simp [heardBy] at q
    exact h (mem_cliF.2 ⟨m, hm, q.1, q.2⟩)
  simp [firF, this, ddF]
theorem rowsF_sent (l : List Mk) {m : Mk} (h : m.sent = true) : rowsF (l ++ [m]) = rowsF l := by
  unfold rowsF
  rw [cliF_sent l h]
  exact List.map_congr_left fun c _ => firF_sent l h c
theorem rowsF_seen (l : List Mk) {m : Mk} (h : m.sent = false) (hm : m ∈ l) : rowsF (l ++ [m]) = rowsF l := by
  unfold rowsF
  rw [cliF_heard l h, insK_in (mem_cliF.2 ⟨m, hm, h, rfl⟩)]
  refine List.map_congr_left fun c _ => ?_
  by_cases q : m.c = c
  · subst q; rw [firF_heard l h, insK_in ((firF_mem h).2 hm)]
  · exact firF_other l q
theorem rowsF_there (l : List Mk) {m : Mk} (h : m.sent = false) (hm : m ∉ l) (hc : m.c ∈ cliF l) : (rowsF l)[idxK (cliF l) m.c]? = some (firF l m.c) ∧ rowsF (l ++ [m]) = (rowsF l).set (idxK (cliF l) m.c) (firF l m.c ++ [mid m]) := by
  have hi := idx_at hc
  refine ⟨by rw [rowsF, List.getElem?_map, hi]; rfl, ?_⟩
  unfold rowsF
  rw [cliF_heard l h, insK_in hc]
  apply List.ext_getElem?
  intro j
  rw [List.getElem?_set, List.getElem?_map, List.length_map]
  by_cases hj : idxK (cliF l) m.c = j
  · subst hj
    rw [if_pos rfl, if_pos (idxK_lt hc), hi]
    simp [firF_heard l h, insK_new (fun q => hm ((firF_mem h).1 q))]
  · rw [if_neg hj, List.getElem?_map]
    cases hx : (cliF l)[j]? with
    | none => rfl
    | some c =>
      have hne : m.c ≠ c := fun q => by subst q; exact hj (idxK_of (nodup_ddF _) hx)
      simp [firF_other l hne]
theorem rowsF_new (l : List Mk) {m : Mk} (h : m.sent = false) (hc : m.c ∉ cliF l) : rowsF (l ++ [m]) = (rowsF l ++ [[]]).set (rowsF l).length ([] ++ [mid m]) := by
  have hm : m ∉ l := fun q => hc (mem_cliF.2 ⟨m, q, h, rfl⟩)
  have e : (rowsF l ++ [[]]).set (rowsF l).length ([] ++ [mid m]) = rowsF l ++ [[mid m]] := by
    rw [List.set_append_right _ _ (Nat.le_refl _)]; simp
  rw [e]
  unfold rowsF
  rw [cliF_heard l h, insK_new hc, List.map_append]
  congr 1
  · exact List.map_congr_left fun c hcc => firF_other l fun q => hc (by rw [q]; exact hcc)
  · simp [firF_heard l h, firF_nil hc, insK]
theorem seenC_nil : seenC [] = fun _ => 0 := by
  funext z; simp [seenC]
theorem seenC_app (p : List Mk) {m : Mk} (h : m.sent = false) (hm : m ∉ p) : seenC (p ++ [m]) = updF (seenC p) m (seenC p m + 1) := by
  funext x
  unfold updF
  by_cases q : x = m
  · subst q
    simp [seenC, h, hm]
  · rw [if_neg q]
    simp [seenC, q]
theorem seenC_same (p : List Mk) {m : Mk} (h : m.sent = true ∨ m ∈ p) : seenC (p ++ [m]) = seenC p := by
  funext x
  unfold seenC
  by_cases q : x = m
  · subst q
    rcases h with h | h
    · simp [h]
    · simp [h]
  · simp [q]
theorem plcC_app (p : List Mk) {m : Mk} (h : m.sent = false) (hc : m.c ∉ cliF p) : plcC (p ++ [m]) = updF (plcC p) m.c (rowsF p).length := by
  funext x
  unfold plcC updF
  rw [cliF_heard p h, insK_new hc]
  have hl : (rowsF p).length = (cliF p).length := by simp [rowsF]
  by_cases q : x = m.c
  · subst q
    rw [if_pos rfl, if_pos (by simp), idxK_app hc, hl]
  · rw [if_neg q]
    by_cases hx : x ∈ cliF p
    · simp only []
      rw [if_pos hx, if_pos (by simp [hx]), idxK_old hx]
    · simp only []
      rw [if_neg hx, if_neg (by simp [hx, q])]
theorem plcC_same (p : List Mk) {m : Mk} (h : m.sent = true ∨ m.c ∈ cliF p) : plcC (p ++ [m]) = plcC p := by
  have : cliF (p ++ [m]) = cliF p := by
    cases hs : m.sent with
    | true => exact cliF_sent p hs
    | false =>
      rcases h with h | h
      · rw [hs] at h; cases h
      · rw [cliF_heard p hs, insK_in h]
  funext x
  unfold plcC
  rw [this]
theorem rowsF_len (l : List Mk) : (rowsF l).length ≤ l.length := by
  rw [rowsF, List.length_map]
  refine Nat.le_trans (ddF_len _) ?_
  rw [List.length_map]
  exact List.length_filter_le _ _
theorem firF_len (l : List Mk) (c : Int) : (firF l c).length ≤ l.length := Nat.le_trans (ddF_len _) (heardL_len l c)
theorem id_flat : ∀ {h h' : Heap} {cs : List AVal} {x : Int × Int}, idR.rep h cs x → idR.rep h' cs x := fun h => h

section
variable {X : XTab}
/-- A mark that is new is told to its row. -/
theorem rows_lay (hX : OnlyKnown X) {h0 g : Heap} {t : T} {Q : Ex × T → Heap → Prop} {kk : Nat → Kn (Ex × T)} {out : AVal} {vs : List AVal} {R : List (List (Int × Int))} {k : Nat} {xs : List (Int × Int)} {m : Mk} {bm : Nat} (t3 : t 3 = out) (t8 : t 8 = I k) (t7 : t 7 = .ptr bm 0) (om : Ob g bm (mkC m))
    (f : Fam idR h0 g out vs R) (hk : R[k]? = some xs) (hl : xs.length < 2 ^ 33) (hle : h0.next ≤ g.next)
    (q : ∀ t' g' vs', (∀ i, i < 50 → t' i = t i) → Fam idR h0 g' out vs' (R.set k (xs ++ [mid m])) → (∀ S, Ext S h0 g → Ext S h0 g') → (∀ d cs, Ob g d cs → Ob g' d cs) → Tells (fun z => kk z .normal t' g') Q) :
    Tells (fun z => J_trace_rows_5 Try.prog (acallX Try.prog X z) z (kk z) t g) Q := by
  unfold J_trace_rows_5
  obtain ⟨v, b, p, B, hv, q1, q2, q3, gv, wv⟩ := f.at hk
  simp [t3, t8, t7, q1, q2, q3, om.1, mkC]
  have hid := trace_id hX m g
  have : Tells (fun z => acallX Try.prog X z F_trace_id [.agg [.bool m.sent, I m.c, I m.f, I m.s]] g) fun v h' => v = .agg (idC (mid m)) ∧ Ext [] g h' := hid
  refine Tells.cbE this ?_
  rintro _ g1 ⟨rfl, x1⟩
  have f1 := f.e x1
  obtain ⟨v2, b2, p2, B2, hv2, r1, r2, r3, gv2, wv2⟩ := f1.at hk
  rw [hv] at hv2
  cases hv2
  cases q1.symm.trans r1
  obtain ⟨v', g2, b3, p3, g3, s1, s2, s3, s4, s5, s6⟩ := f1.app (by_ := 16) id_flat hk hv (x := mid m) (c := idC (mid m)) rfl (n := 2) rfl hl (by decide) (Nat.le_trans hle x1.next)
  cases r1.symm.trans s2
  have lit : bslR 2 [(.int .i64 0), (.int .i64 0)] 1 g1 [(0, 2, .agg (idC (mid m)))] = .val (.sl g1.next 0 1 1 2 true) (g1.new false (idC (mid m))) := bsl1 rfl rfl rfl
  simp [r2, r3, lit, s1, s2, s3]
  refine q _ g3 _ (fun i hi => ?_) s4 (fun S e => s5 S (e.quiet x1)) fun d cs o => s6 d cs (o.e x1)
  simp only [upd]
  repeat rw [if_neg (by omega)]
end

theorem ui64 : Try.prog.underlying 3 = some (.int .i64) := by kernel_rfl
section
variable {X : XTab}
theorem trace_rows (hX : OnlyKnown X) {h : Heap} {v : AVal} {l : List Mk} (o : Sl mkR h v l) (hl : l.length ≤ 100) : Tells (fun q => acallX Try.prog X q F_trace_rows [v] h) fun r h' => (∃ vs, Fam idR h h' r vs (rowsF l)) ∧ Ext [] h h' := by
  refine R_trace_rows _ (hX _ _ rfl) ?_
  refine Tells.prot fun Q' hQ => ?_
  unfold S_trace_rows
  simp
  obtain ⟨m1, x1⟩ := Mp.make (K := kInt Try.prog 3 ui64) h
  obtain ⟨m2, x2⟩ := Mp.make (K := kMark Try.prog 23 mk23) (h.new true [])
  have lt1 : h.next < (h.new true []).next := m1.ob.lt
  simp [o.len]
  refine Tells.bind (Tells.loop (fun n t g => ∃ (i : Nat) (k2 : List Mk) (vs : List AVal), t 4 = .mp h.next ∧ t 5 = .mp (h.new true []).next ∧ t 12 = v ∧ t 13 = I l.length ∧ t 14 = I i ∧ i + n = l.length ∧
      Mp (kInt Try.prog 3 ui64) g h.next (cliF (l.take i)) (plcC (l.take i)) ∧ Mp (kMark Try.prog 23 mk23) g (h.new true []).next k2 (seenC (l.take i)) ∧ Ext [] h g ∧ Fam idR h g (t 3) vs (rowsF (l.take i)))
    (Q := fun p g => p.1 = .exit 0 ∧ Ext [] h g ∧ ∃ vs, Fam idR h g (p.2 3) vs (rowsF l)) ?_ l.length _ _ ?_) ?_
  · rintro n t g ⟨i, k2, vs, t4, t5, t12, t13, t14, hi, M1, M2, x, fam⟩
    refine Tells.prot fun Q2 hQ2 => ?_
    unfold L_trace_rows_1
    simp [t14, t13]
    refine Tells.cb (fun hc => ?_) (fun hc => ?_)
    · simp at hc
      obtain ⟨m, hm⟩ : ∃ m, l[i]? = some m := ⟨_, List.getElem?_eq_getElem hc⟩
      obtain ⟨b, p, B, q1, q2, q3, q4, q5, q6, q7, q8, q9⟩ := mk_at (o.ext x) hm
      have htk : l.take (i + 1) = l.take i ++ [m] := by rw [List.take_add_one, hm]; rfl
      have w : IntKind.i64.wrap ((i : Int) + 1) = i + 1 := wrap_id (by omega) (by omega)
      have hli : (l.take i).length ≤ 100 := by simp; omega
      simp [J_trace_rows_2, t12, t14, q1, q2, q3, q4]
      refine Tells.newSt (ds := mkC m) (by rfl) (by rfl) (by rfl) (by rfl) fun g1 bm om y1 l1 => ?_
      have N1 := M1.e y1
      have N2 := M2.e y1
      have y := x.trans y1
      have fam1 := fam.e y1
      have hb1 : h.next < g.next := M1.ob.lt
      have hb2 : (h.new true []).next < g.next := M2.ob.lt
      have e2 := N2.look4 mt54 tz3 m
      simp [om.1, mkC, t5, e2]
      by_cases ks : m.sent = true
      · simp [ks, J_trace_rows_3, t14, w]
        refine Tells.ok (hQ2 _ _ (.inl ⟨rfl, n - 1, by omega, i + 1, k2, vs, by simp [t4], by simp [t5], by simp [t12], by simp [t13], by simp, by omega, ?_, ?_, y, ?_⟩))
        · rw [htk, cliF_sent _ ks, plcC_same _ (.inl ks)]; exact N1
        · rw [htk, seenC_same _ (.inl ks)]; exact N2
        · rw [htk, rowsF_sent _ ks]; simpa using fam1
      · have ks' : m.sent = false := by simpa using ks
        rw [ks'] at e2
        by_cases hin : m ∈ l.take i
        · have es : seenC (l.take i) m = 1 := by simp [seenC, ks', hin]
          rw [es] at e2
          simp [ks', om.1, mkC, t5, e2, J_trace_rows_3, t14, w]
          refine Tells.ok (hQ2 _ _ (.inl ⟨rfl, n - 1, by omega, i + 1, k2, vs, by simp [t4], by simp [t5], by simp [t12], by simp [t13], by simp, by omega, ?_, ?_, y, ?_⟩))
          · rw [htk, cliF_heard _ ks', insK_in (mem_cliF.2 ⟨m, hin, ks', rfl⟩), plcC_same _ (.inr (mem_cliF.2 ⟨m, hin, ks', rfl⟩))]; exact N1
          · rw [htk, seenC_same _ (.inr hin)]; exact N2
          · rw [htk, rowsF_seen _ ks' hin]; simpa using fam1
        · have es : seenC (l.take i) m = 0 := by simp [seenC, hin]
          have e2' := e2
          rw [es] at e2'
          simp [ks', om.1, mkC, t5, e2']
          unfold J_trace_rows_4
          simp [ks', om.1, mkC, t5]
          refine Tells.inc N2 mt54 tz3 (a := m) (κ := .agg [.bool false, I m.c, I m.f, I m.s]) (by simp [kMark, ks']) (by rw [es]; exact ⟨by decide, by decide⟩) fun g2 N3 y2 => ?_
          have om2 := om.ext y2 (by simp; omega)
          have N1' := N1.ext y2 (by simp; omega)
          have fam2 := fam1.ext y2 (fun z hz => by simp at hz; subst hz; exact .inl (by rw [y1.isM _ (by omega)]; exact M2.ob.2.1))
          have y02 := y.then y2 (by simp; omega)
          have e3 := N1'.look1Ok mt46 tz3 m.c
          have hsn : seenC (l.take (i + 1)) = updF (seenC (l.take i)) m (seenC (l.take i) m + 1) := by rw [htk, seenC_app _ ks' hin]
          have hfl := firF_len (l.take i) m.c
          have hrl := rowsF_len (l.take i)
          simp [om2.1, mkC, t4, e3]
          by_cases hcc : m.c ∈ cliF (l.take i)
          · obtain ⟨hk, hr⟩ := rowsF_there (l.take i) ks' hin hcc
            have ep : plcC (l.take i) m.c = (idxK (cliF (l.take i)) m.c : Nat) := if_pos hcc
            simp [hcc]
            refine rows_lay hX (out := t 3) (k := idxK (cliF (l.take i)) m.c) (m := m) (bm := bm) (by simp) (by simp [ep]) (by simp) om2 fam2 hk (by omega) y02.next fun t' g3 vs' ht fam3 y3 ob3 => ?_
            simp [J_trace_rows_3, ht 14 (by decide), t14, w]
            refine Tells.ok (hQ2 _ _ (.inl ⟨rfl, n - 1, by omega, i + 1, insK k2 m, vs', by simp [ht 4 (by decide), t4], by simp [ht 5 (by decide), t5], by simp [ht 12 (by decide), t12], by simp [ht 13 (by decide), t13], by simp, by omega, ?_, ?_, y3 _ y02, ?_⟩))
            · rw [htk, cliF_heard _ ks', insK_in hcc, plcC_same _ (.inr hcc)]; exact ⟨ob3 _ _ N1'.ob, N1'.nd, N1'.out⟩
            · rw [hsn]; exact ⟨ob3 _ _ N3.ob, N3.nd, N3.out⟩
            · rw [htk, hr]; simpa [ht 3 (by decide)] using fam3
          · have hr := rowsF_new (l.take i) ks' hcc
            have hlen := fam2.sl.1.len
            rw [List.length_map, fam2.fi.len] at hlen
            simp [hcc, hlen, om2.1, mkC, t4]
            refine Tells.mset N1' mt46 (a := m.c) (by rfl) fun g3 N4 y3 => ?_
            have om3 := om2.ext y3 (by simp; omega)
            have N3' := N3.ext y3 (by simp; omega)
            have fam3 := fam2.ext y3 (fun z hz => by simp at hz; subst hz; exact .inl N1'.ob.2.1)
            have y03 := y02.then y3 (by simp)
            try simp
            refine Tells.famNil fam3 (by omega) (by decide) y03.next fun out' g4 fam4 y4 z4 => ?_
            have nm : ∀ d cs, Ob g3 d cs → d ∉ (t 3).blks := fun d cs od hd => fam3.sl.1.ob od hd
            have om4 := om3.ext z4 (nm _ _ om3)
            have N4' := N4.ob.ext z4 (nm _ _ N4.ob)
            have N3'' := N3'.ob.ext z4 (nm _ _ N3'.ob)
            try simp
            refine rows_lay hX (out := out') (k := (rowsF (l.take i)).length) (m := m) (bm := bm) (xs := []) (by simp) (by simp) (by simp) om4 fam4 (by simp) (by simp) (y4 _ y03).next fun t' g5 vs' ht fam5 y5 ob5 => ?_
            simp [J_trace_rows_3, ht 14 (by decide), t14, w]
            refine Tells.ok (hQ2 _ _ (.inl ⟨rfl, n - 1, by omega, i + 1, insK k2 m, vs', by simp [ht 4 (by decide), t4], by simp [ht 5 (by decide), t5], by simp [ht 12 (by decide), t12], by simp [ht 13 (by decide), t13], by simp, by omega, ?_, ?_, y5 _ (y4 _ y03), ?_⟩))
            · rw [htk, plcC_app _ ks' hcc, cliF_heard _ ks']; exact ⟨ob5 _ _ N4', N4.nd, N4.out⟩
            · rw [hsn]; exact ⟨ob5 _ _ N3'', N3'.nd, N3'.out⟩
            · rw [htk, hr]; simpa [ht 3 (by decide)] using fam5
    · simp at hc
      refine Tells.ok (hQ2 _ _ (.inr ⟨by simp, rfl, x, vs, ?_⟩))
      rw [List.take_of_length_le (by omega)] at fam
      simpa using fam
  · exact ⟨0, [], [], by simp, by simp, by simp, by simp, by simp, by omega, m1.e x2, (by rw [List.take_zero, seenC_nil]; exact m2), x1.trans x2, by simpa [rowsF, cliF, ddF] using Fam.nil⟩
  · rintro ⟨ex, t⟩ g ⟨rfl, x, fam⟩
    simp [J_trace_rows_0]
    exact Tells.ok (hQ _ _ ⟨fam, x⟩)
end
end Go.Proofs.Ytochkdifpgelmaa

/-! What trace's Agree tells. -/
namespace Go.Proofs.Ytochkdifpgelmaa
open Go.Ab

def posF (a : List (Int × Int)) (x : Int × Int) : Int := if x ∈ a then (idxK a x : Nat) + 1 else 0
theorem posF_app {l : List (Int × Int)} {x : Int × Int} (h : x ∉ l) : posF (l ++ [x]) = updF (posF l) x (l.length + 1) := by
  funext y
  unfold posF updF
  by_cases q : y = x
  · subst q
    rw [if_pos rfl, if_pos (by simp), idxK_app h]
  · rw [if_neg q]
    by_cases hy : y ∈ l
    · simp only []
      rw [if_pos hy, if_pos (by simp [hy]), idxK_old hy]
    · simp only []
      rw [if_neg hy, if_neg (by simp [hy, q])]
theorem posF_le (a : List (Int × Int)) (x : Int × Int) : 0 ≤ posF a x ∧ posF a x ≤ a.length := by
  unfold posF
  split
  · rename_i h
    have := idxK_lt h
    omega
  · omega
/-- Do the events of b that are in a come as they do in a? -/
def agr (a : List (Int × Int)) : Int → List (Int × Int) → Bool
  | _, [] => true
  | last, x :: r => !(decide (0 < posF a x) && decide (posF a x < last)) && agr a (max last (posF a x)) r
def agreeG : List (List (Int × Int)) → List (List (Int × Int)) → Bool
  | _, [] => true
  | p, a :: r => p.all (agr a 0) && agreeG (p ++ [a]) r
def agreeR (R : List (List (Int × Int))) : Bool := agreeG [] R

theorem nodup_row {l : List Mk} {a : List (Int × Int)} (h : a ∈ rowsF l) : a.Nodup := by
  rw [rowsF, List.mem_map] at h
  obtain ⟨c, _, rfl⟩ := h
  exact nodup_ddF _
theorem row_len {l : List Mk} {a : List (Int × Int)} (h : a ∈ rowsF l) : a.length ≤ l.length := by
  rw [rowsF, List.mem_map] at h
  obtain ⟨c, _, rfl⟩ := h
  exact firF_len l c

theorem row_at {α : Type} {r : Rp α} {h : Heap} {v : AVal} {R : List (List α)} (o : Sl (rowR r) h v R) {i : Nat} {a : List α} (ha : R[i]? = some a) :
    ∃ b p B u, ixsR 1 v (.int .i64 (i : Int)) = some (.ptr b p) ∧ h.get b = some B ∧ B[p]? = some u ∧ Sl r h u a := by
  obtain ⟨b, p, B, c, q1, q2, u, q3, q4⟩ := o.at (n := 1) rfl (i := (i : Int)) (by omega) (by simpa using ha)
  subst q3
  exact ⟨b, p, B, u, q1, q2.get, q2.cell0 (by simp), q4⟩

section
variable {X : XTab}
theorem pos_loop {g : Heap} {v : AVal} {a : List (Int × Int)} {b : Nat} {t : T} (o : Sl idR g v a) (hn : a.Nodup) (hl : a.length ≤ 100) (m0 : Mp (kTwo Try.prog 30 two30) g b [] (fun _ => 0)) (t24 : t 24 = v) (t25 : t 25 = I a.length) (t26 : t 26 = I 0) (t6 : t 6 = .mp b) :
    Tells (fun q => loopN (L_trace_Agree_12 Try.prog (acallX Try.prog X q) q) q t g) fun p g' => p.1 = .exit 2 ∧ Mp (kTwo Try.prog 30 two30) g' b a (posF a) ∧ Ext [b] g g' ∧ Frm [7, 8, 26, 27, 28, 29, 30, 31, 32, 33, 34, 35] t p.2 := by
  refine Tells.loop (fun n t' g' => ∃ i : Nat, t' 26 = I i ∧ i + n = a.length ∧ Mp (kTwo Try.prog 30 two30) g' b (a.take i) (posF (a.take i)) ∧ Ext [b] g g' ∧ Frm [7, 8, 26, 27, 28, 29, 30, 31, 32, 33, 34, 35] t t') ?_ a.length _ _ ?_
  · rintro n u g1 ⟨i, u26, hi, M, x, fr⟩
    have u24 : u 24 = v := (fr 24 rfl).trans t24
    have u25 : u 25 = I a.length := (fr 25 rfl).trans t25
    have u6 : u 6 = .mp b := (fr 6 rfl).trans t6
    refine Tells.prot fun Q2 hQ2 => ?_
    unfold L_trace_Agree_12
    simp [u26, u25]
    refine Tells.cb (fun hc => ?_) (fun hc => ?_)
    · simp at hc
      obtain ⟨y, hy⟩ : ∃ y, a[i]? = some y := ⟨_, List.getElem?_eq_getElem hc⟩
      obtain ⟨b1, p, B, q1, q2, q3, q4, q5, q6, q7⟩ := id_at (o.ext x) hy
      have htk : a.take (i + 1) = a.take i ++ [y] := by rw [List.take_add_one, hy]; rfl
      have hnew : y ∉ a.take i := fun q => by
        obtain ⟨j, hj⟩ := List.mem_iff_getElem?.1 q
        have hji : j < i := by have := (List.getElem?_eq_some_iff.1 hj).1; simp at this; omega
        rw [List.getElem?_take, if_pos hji] at hj
        have := (List.getElem?_inj (by omega) hn).1 (hj.trans hy.symm)
        omega
      have w : IntKind.i64.wrap ((i : Int) + 1) = i + 1 := wrap_id (by omega) (by omega)
      simp [J_trace_Agree_13, u26, u24, q1, q2, q3, q4]
      refine Tells.newSt (ds := idC y) (by rfl) (by rfl) (by rfl) (by rfl) fun g2 b2 o2 x2 l2 => ?_
      simp [o2.1, idC, u6, w]
      refine Tells.mset (M.e x2) mt47 (a := y) (κ := .agg [I y.1, I y.2]) (by rfl) fun g3 M3 x3 => ?_
      simp [J_trace_Agree_14, u26, w]
      refine Tells.ok (hQ2 _ _ (.inl ⟨rfl, n - 1, by omega, i + 1, by simp, by omega, ?_, (x.quiet x2).trans x3, ?_⟩))
      · have : posF (a.take (i + 1)) = updF (posF (a.take i)) y (i + 1) := by
          rw [htk, posF_app hnew, List.length_take, Nat.min_eq_left (by omega)]
        rw [this, htk, ← insK_new hnew]
        exact M3
      · repeat (first | exact fr | refine Frm.u ?_ _ _ (by decide))
    · simp at hc
      refine Tells.ok (hQ2 _ _ (.inr ⟨by simp, rfl, ?_, x, ?_⟩))
      · rw [List.take_of_length_le (by omega)] at M; exact M
      · exact fr.u _ _
  · exact ⟨0, by simp [t26], by omega, m0, .refl, .refl⟩

/-- One row beside another one. -/
theorem agr_loop {g : Heap} {v : AVal} {a c : List (Int × Int)} {b : Nat} {t : T} (o : Sl idR g v c) (hl : c.length ≤ 100) (M : Mp (kTwo Try.prog 30 two30) g b a (posF a)) (t44 : t 44 = v) (t45 : t 45 = I c.length) (t46 : t 46 = I 0) (t6 : t 6 = .mp b) (t11 : t 11 = I 0) :
    Tells (fun q => loopN (L_trace_Agree_8 Try.prog (acallX Try.prog X q) q) q t g) fun p g' => Ext [] g g' ∧ ((p.1 = .exit 6 ∧ agr a 0 c = true ∧ Frm [11, 13, 46, 47, 48, 49, 50, 51, 52, 53, 54, 55, 56, 57, 58, 59, 60, 61, 62, 63, 64, 65, 66] t p.2) ∨ (p.1 = .ret ∧ agr a 0 c = false ∧ p.2 2 = .bool false)) := by
  refine Tells.loop (fun n t' g' => ∃ (i : Nat) (last : Int), t' 46 = I i ∧ t' 11 = I last ∧ i + n = c.length ∧ Ext [] g g' ∧ agr a last (c.drop i) = agr a 0 c ∧ Frm [11, 13, 46, 47, 48, 49, 50, 51, 52, 53, 54, 55, 56, 57, 58, 59, 60, 61, 62, 63, 64, 65, 66] t t') ?_ c.length _ _ ?_
  · rintro n u g1 ⟨i, last, u46, u11, hi, x, ha, fr⟩
    have u44 : u 44 = v := (fr 44 rfl).trans t44
    have u45 : u 45 = I c.length := (fr 45 rfl).trans t45
    have u6 : u 6 = .mp b := (fr 6 rfl).trans t6
    refine Tells.prot fun Q2 hQ2 => ?_
    unfold L_trace_Agree_8
    simp [u46, u45]
    refine Tells.cb (fun hc => ?_) (fun hc => ?_)
    · simp at hc
      obtain ⟨y, hy⟩ : ∃ y, c[i]? = some y := ⟨_, List.getElem?_eq_getElem hc⟩
      obtain ⟨b1, p, B, q1, q2, q3, q4, q5, q6, q7⟩ := id_at (o.ext x) hy
      have hdr : c.drop i = y :: c.drop (i + 1) := by
        rw [List.drop_eq_getElem_cons hc]
        rw [List.getElem?_eq_getElem hc] at hy
        cases hy; rfl
      have w : IntKind.i64.wrap ((i : Int) + 1) = i + 1 := wrap_id (by omega) (by omega)
      rw [hdr] at ha
      simp only [agr] at ha
      simp [J_trace_Agree_9, u46, u44, q1, q2, q3, q4]
      refine Tells.newSt (ds := idC y) (by rfl) (by rfl) (by rfl) (by rfl) fun g2 b2 o2 x2 l2 => ?_
      have e := ((M.e x).e x2).look2 mt47 tz3 y
      have x02 := x.trans x2
      simp [o2.1, idC, u6, e, u11]
      by_cases h1 : 0 < posF a y
      · by_cases h2 : posF a y < last
        · rw [decide_eq_true h1, decide_eq_true h2] at ha
          simp [h1, h2, o2.1, idC, u6, e, u11]
          refine Tells.ok (hQ2 _ _ (.inr ⟨by simp, x02, .inr ⟨rfl, ?_, by simp⟩⟩))
          simpa using ha.symm
        · rw [decide_eq_false h2] at ha
          simp [h1, h2, o2.1, idC, u6, e, u11, J_trace_Agree_11, J_trace_Agree_10, u46, w]
          refine Tells.ok (hQ2 _ _ (.inl ⟨rfl, n - 1, by omega, i + 1, max last (posF a y), by simp, ?_, by omega, x02, ?_, ?_⟩))
          · simp; omega
          · simpa using ha
          · repeat (first | exact fr | refine Frm.u ?_ _ _ (by decide))
      · rw [decide_eq_false h1] at ha
        simp [h1, o2.1, idC, u6, e, u11, J_trace_Agree_11, J_trace_Agree_10, u46, w]
        refine Tells.ok (hQ2 _ _ (.inl ⟨rfl, n - 1, by omega, i + 1, max last (posF a y), by simp, ?_, by omega, x02, ?_, ?_⟩))
        · simp; omega
        · simpa using ha
        · repeat (first | exact fr | refine Frm.u ?_ _ _ (by decide))
    · simp at hc
      rw [List.drop_of_length_le (by omega)] at ha
      refine Tells.ok (hQ2 _ _ (.inr ⟨by simp, x, .inl ⟨rfl, ha.symm, fr.u _ _⟩⟩))
  · exact ⟨0, 0, by simp [t46], t11, by omega, .refl, by simp, .refl⟩

/-- A row beside the ones ahead of it. -/
theorem agrs_loop {g : Heap} {v : AVal} {a : List (Int × Int)} {C : List (List (Int × Int))} {b : Nat} {t : T} (o : Sl (rowR idR) g v C) (hC : ∀ c, c ∈ C → c.length ≤ 100) (hl : C.length ≤ 100) (M : Mp (kTwo Try.prog 30 two30) g b a (posF a)) (t38 : t 38 = v) (t39 : t 39 = I C.length) (t40 : t 40 = I 0) (t6 : t 6 = .mp b) :
    Tells (fun q => loopN (L_trace_Agree_5 Try.prog (acallX Try.prog X q) q) q t g) fun p g' => Ext [] g g' ∧ ((p.1 = .exit 4 ∧ C.all (agr a 0) = true ∧ (∀ i, i ≤ 9 ∨ (14 ≤ i ∧ i ≤ 37) → p.2 i = t i)) ∨ (p.1 = .ret ∧ C.all (agr a 0) = false ∧ p.2 2 = .bool false)) := by
  refine Tells.loop (fun n t' g' => ∃ (i : Nat), t' 40 = I i ∧ i + n = C.length ∧ Ext [] g g' ∧ (C.take i).all (agr a 0) = true ∧ (∀ i, i ≤ 9 ∨ (14 ≤ i ∧ i ≤ 39) → t' i = t i)) ?_ C.length _ _ ?_
  · rintro n u g1 ⟨i, u40, hi, x, ha, fr⟩
    have u38 : u 38 = v := (fr 38 (by decide)).trans t38
    have u39 : u 39 = I C.length := (fr 39 (by decide)).trans t39
    have u6 : u 6 = .mp b := (fr 6 (by decide)).trans t6
    refine Tells.prot fun Q2 hQ2 => ?_
    unfold L_trace_Agree_5
    simp [u40, u39]
    refine Tells.cb (fun hc => ?_) (fun hc => ?_)
    · simp at hc
      obtain ⟨c, hy⟩ : ∃ c, C[i]? = some c := ⟨_, List.getElem?_eq_getElem hc⟩
      obtain ⟨b1, p, B, w1, q1, q2, q3, q4⟩ := row_at (o.ext x) hy
      have htk : C.take (i + 1) = C.take i ++ [c] := by rw [List.take_add_one, hy]; rfl
      have w : IntKind.i64.wrap ((i : Int) + 1) = i + 1 := wrap_id (by omega) (by omega)
      simp [J_trace_Agree_6, u38, u40, q1, q2, q3, q4.len]
      refine Tells.bind (agr_loop (b := b) q4 (hC c (List.mem_of_getElem? hy)) (M.e x) (by simp) (by simp) (by simp) (by simp [u6]) (by simp)) ?_
      rintro ⟨ex, t2⟩ g2 ⟨x2, ⟨rfl, hag, f2⟩ | ⟨rfl, hag, h2⟩⟩
      · have k40 : t2 40 = I i := (f2 40 rfl).trans (by simp [u40])
        simp [J_trace_Agree_7, k40, w]
        refine Tells.ok (hQ2 _ _ (.inl ⟨rfl, n - 1, by omega, i + 1, by simp, by omega, x.trans x2, ?_, fun j hj => ?_⟩))
        · rw [htk, List.all_append, ha]; simp [hag]
        · have hL : [11, 13, 46, 47, 48, 49, 50, 51, 52, 53, 54, 55, 56, 57, 58, 59, 60, 61, 62, 63, 64, 65, 66].contains j = false := by
            simp; omega
          have : t2 j = _ := f2 j hL
          simp only [upd]
          rw [if_neg (by omega), if_neg (by omega), this]
          simp only [upd]
          repeat rw [if_neg (by omega)]
          exact fr j hj
      · simp
        refine Tells.ok (hQ2 _ _ (.inr ⟨by simp, x.trans x2, .inr ⟨rfl, ?_, h2⟩⟩))
        cases hq : C.all (agr a 0) with
        | false => rfl
        | true =>
          rw [List.all_eq_true] at hq
          rw [hq c (List.mem_of_getElem? hy)] at hag
          cases hag
    · simp at hc
      rw [List.take_of_length_le (by omega)] at ha
      refine Tells.ok (hQ2 _ _ (.inr ⟨by simp, x, .inl ⟨rfl, ha, fun j hj => ?_⟩⟩))
      simp only [upd]
      rw [if_neg (by omega)]
      exact fr j (by omega)
  · exact ⟨0, by simp [t40], by omega, .refl, by simp, fun _ _ => rfl⟩

theorem agreeG_at {p r : List (List (Int × Int))} {a : List (Int × Int)} : agreeG p (a :: r) = (p.all (agr a 0) && agreeG (p ++ [a]) r) := rfl
theorem trace_Agree (hX : OnlyKnown X) {h : Heap} {v : AVal} {l : List Mk} (o : Sl mkR h v l) (hl : l.length ≤ 100) : Tells (fun q => acallX Try.prog X q F_trace_Agree [v] h) fun r h' => r = .bool (agreeR (rowsF l)) ∧ Ext [] h h' := by
  refine R_trace_Agree _ (hX _ _ rfl) ?_
  refine Tells.prot fun Q' hQ => ?_
  unfold S_trace_Agree
  simp
  refine Tells.bind (trace_rows hX o hl) ?_
  rintro all h1 ⟨⟨vs, fam⟩, x1⟩
  have orr := fam.rd
  have hR := rowsF_len l
  have hrl : ∀ c, c ∈ rowsF l → c.length ≤ 100 := fun c hc => Nat.le_trans (row_len hc) hl
  have hnd : ∀ c, c ∈ rowsF l → c.Nodup := fun c hc => nodup_row hc
  generalize rowsF l = R at *
  simp [orr.len]
  refine Tells.bind (Tells.loop (fun n t g => ∃ i : Nat, t 3 = all ∧ t 16 = all ∧ t 17 = I R.length ∧ t 18 = I i ∧ i + n = R.length ∧ Ext [] h1 g ∧ agreeG (R.take i) (R.drop i) = agreeR R)
    (Q := fun p g => Ext [] h1 g ∧ ((p.1 = .exit 0 ∧ agreeR R = true) ∨ (p.1 = .ret ∧ p.2 2 = .bool false ∧ agreeR R = false))) ?_ R.length _ _ ?_) ?_
  · rintro n t g ⟨i, t3, t16, t17, t18, hi, x, hag⟩
    refine Tells.prot fun Q2 hQ2 => ?_
    unfold L_trace_Agree_1
    simp [t18, t17]
    refine Tells.cb (fun hc => ?_) (fun hc => ?_)
    · simp at hc
      obtain ⟨a, hy⟩ : ∃ a, R[i]? = some a := ⟨_, List.getElem?_eq_getElem hc⟩
      have ha := List.mem_of_getElem? hy
      have hdr : R.drop i = a :: R.drop (i + 1) := by
        rw [List.drop_eq_getElem_cons hc]
        rw [List.getElem?_eq_getElem hc] at hy
        cases hy; rfl
      have htk : R.take (i + 1) = R.take i ++ [a] := by rw [List.take_add_one, hy]; rfl
      rw [hdr, agreeG_at, ← htk] at hag
      obtain ⟨b1, p, B, w1, q1, q2, q3, q4⟩ := row_at (orr.ext x) hy
      have w : IntKind.i64.wrap ((i : Int) + 1) = i + 1 := wrap_id (by omega) (by omega)
      obtain ⟨m1, x2⟩ := Mp.make (K := kTwo Try.prog 30 two30) g
      have q4' := q4.ext x2
      simp [J_trace_Agree_2, t16, t18, q1, q2, q3, q4.len]
      refine Tells.bind (pos_loop (b := g.next) q4' (hnd a ha) (hrl a ha) m1 (by simp) (by simp) (by simp) (by simp)) ?_
      rintro ⟨ex, u⟩ g2 ⟨rfl, m2, x3, fr⟩
      have k3 : u 3 = all := (fr 3 rfl).trans (by simp [t3])
      have k4 : u 4 = I i := (fr 4 rfl).trans (by simp)
      have k6 : u 6 = .mp g.next := (fr 6 rfl).trans (by simp)
      have x13 := (x.trans x2).then x3 (by simp; have := x.next; omega)
      obtain ⟨cv, s1, s2, s3⟩ := (orr.ext x13).takeR (n := 1) rfl (hi := i) (by omega)
      simp [J_trace_Agree_4, k3, k4, s1, s2.len, Nat.min_eq_left (Nat.le_of_lt hc)]
      refine Tells.bind (agrs_loop (b := g.next) (C := R.take i) s2 (fun c hcc => hrl c (List.mem_of_mem_take hcc)) (by simp; omega) m2 (by simp) (by simp [Nat.min_eq_left (Nat.le_of_lt hc)]) (by simp) (by simp [k6])) ?_
      rintro ⟨ex, u2⟩ g3 ⟨x4, ⟨rfl, hall, f2⟩ | ⟨rfl, hall, h2⟩⟩
      · have e18 : u2 18 = I i := (f2 18 (by decide)).trans (by simp; exact (fr 18 rfl).trans (by simp [t18]))
        have e3 : u2 3 = all := (f2 3 (by decide)).trans (by simp [k3])
        have e16 : u2 16 = all := (f2 16 (by decide)).trans (by simp; exact (fr 16 rfl).trans (by simp [t16]))
        have e17 : u2 17 = I R.length := (f2 17 (by decide)).trans (by simp; exact (fr 17 rfl).trans (by simp [t17]))
        simp [J_trace_Agree_3, e18, w]
        rw [hall] at hag
        refine Tells.ok (hQ2 _ _ (.inl ⟨rfl, n - 1, by omega, i + 1, by simp [e3], by simp [e16], by simp [e17], by simp, by omega, x13.trans x4, by simpa using hag⟩))
      · rw [hall] at hag
        simp
        refine Tells.ok (hQ2 _ _ (.inr ⟨by simp, x13.trans x4, .inr ⟨rfl, h2, by simpa using hag.symm⟩⟩))
    · simp at hc
      rw [List.drop_of_length_le (by omega)] at hag
      exact Tells.ok (hQ2 _ _ (.inr ⟨by simp, x, .inl ⟨rfl, hag.symm⟩⟩))
  · exact ⟨0, by simp, by simp, by simp, by simp, by omega, .refl, by simp [agreeR]⟩
  · rintro ⟨ex, t⟩ g ⟨x, ⟨rfl, ho⟩ | ⟨rfl, t2, ho⟩⟩
    · simp [J_trace_Agree_0]
      exact Tells.ok (hQ _ _ ⟨by rw [ho], x1.trans x⟩)
    · simp
      refine Tells.ok (hQ _ _ ⟨?_, x1.trans x⟩)
      rw [ho]; exact t2
end
end Go.Proofs.Ytochkdifpgelmaa

/-! Plain laws of what trace tells: who agrees, what was once. -/
namespace Go.Proofs.Ytochkdifpgelmaa
open Go.Ab

abbrev Ids := List (Int × Int)
theorem posF_in {a : Ids} {x : Int × Int} (h : x ∈ a) : posF a x = (idxK a x : Nat) + 1 := if_pos h
theorem posF_out {a : Ids} {x : Int × Int} (h : x ∉ a) : posF a x = 0 := if_neg h
theorem idxK_inj {a : Ids} {x y : Int × Int} (hx : x ∈ a) (hy : y ∈ a) (h : idxK a x = idxK a y) : x = y := by
  have h1 := idx_at hx
  have h2 := idx_at hy
  rw [h, h2] at h1
  exact (Option.some.inj h1).symm

theorem agr_iff (a : Ids) : ∀ (b : Ids) (last : Int), 0 ≤ last → (agr a last b = true ↔ (∀ y, y ∈ b → y ∈ a → last ≤ posF a y) ∧ b.Pairwise fun x y => x ∈ a → y ∈ a → posF a x ≤ posF a y)
  | [], last, _ => by simp [agr]
  | x :: r, last, h0 => by
    have hp := posF_le a x
    have ih := agr_iff a r (max last (posF a x)) (by omega)
    simp only [agr, Bool.and_eq_true, ih, List.pairwise_cons, List.mem_cons]
    constructor
    · rintro ⟨h1, h2, h3⟩
      refine ⟨fun y hy hya => ?_, fun y hy hxa hya => ?_, h3⟩
      · rcases hy with q | q
        · subst q
          have := posF_in hya
          simp at h1
          omega
        · have := h2 y q hya; omega
      · have := h2 y hy hya; omega
    · rintro ⟨h1, h2, h3⟩
      refine ⟨?_, fun y hy hya => ?_, h3⟩
      · simp
        by_cases hx : x ∈ a
        · exact .inr (h1 x (.inl rfl) hx)
        · left; rw [posF_out hx]; omega
      · have k1 := h1 y (.inr hy) hya
        by_cases hx : x ∈ a
        · have := h2 y hy hx hya; omega
        · rw [posF_out hx]; omega

/-- What is in both stands in one order. -/
def same2 (a b : Ids) : Prop := ∀ x y, x ∈ a → y ∈ a → x ∈ b → y ∈ b → idxK b x < idxK b y → idxK a x < idxK a y
theorem same2.symm {a b : Ids} (h : same2 a b) : same2 b a := fun x y hx hy hx' hy' hlt => by
  rcases Nat.lt_trichotomy (idxK b x) (idxK b y) with q | q | q
  · exact q
  · have := idxK_inj hx hy q
    subst this; omega
  · have := h y x hy' hx' hy hx q
    omega
theorem pairwise_idx {α : Type} [DecidableEq α] {R : α → α → Prop} : ∀ {l : List α}, l.Nodup → (l.Pairwise R ↔ ∀ (i j : Nat) (x y : α), i < j → l[i]? = some x → l[j]? = some y → R x y)
  | [], _ => by simp
  | a :: l, hn => by
    obtain ⟨h1, h2⟩ := List.nodup_cons.1 hn
    rw [List.pairwise_cons, pairwise_idx h2]
    constructor
    · rintro ⟨k1, k2⟩ i j x y hij hx hy
      cases i with
      | zero =>
        simp at hx; subst hx
        cases j with
        | zero => omega
        | succ j => exact k1 y (List.mem_of_getElem? (by simpa using hy))
      | succ i =>
        cases j with
        | zero => omega
        | succ j => exact k2 i j x y (by omega) (by simpa using hx) (by simpa using hy)
    · intro k
      refine ⟨fun y hy => ?_, fun i j x y hij hx hy => k (i + 1) (j + 1) x y (by omega) (by simpa using hx) (by simpa using hy)⟩
      obtain ⟨j, hj⟩ := List.mem_iff_getElem?.1 hy
      exact k 0 (j + 1) a y (by omega) rfl (by simpa using hj)
theorem agr_same {a b : Ids} (hb : b.Nodup) : agr a 0 b = true ↔ same2 a b := by
  rw [agr_iff a b 0 (by omega), pairwise_idx hb]
  constructor
  · rintro ⟨_, h⟩ x y hx hy hx' hy' hlt
    have := h _ _ x y hlt (idx_at hx') (idx_at hy') hx hy
    rw [posF_in hx, posF_in hy] at this
    rcases Nat.lt_or_ge (idxK a x) (idxK a y) with q | q
    · exact q
    · have e : idxK a x = idxK a y := by omega
      have := idxK_inj hx hy e
      subst this; omega
  · intro h
    refine ⟨fun y _ _ => (posF_le a y).1, fun i j x y hij hx hy hxa hya => ?_⟩
    have ex := idxK_of hb hx
    have ey := idxK_of hb hy
    have := h x y hxa hya (List.mem_of_getElem? hx) (List.mem_of_getElem? hy) (by omega)
    rw [posF_in hxa, posF_in hya]; omega

theorem agreeG_iff : ∀ (r p : List Ids), agreeG p r = true ↔ (∀ b, b ∈ p → ∀ a, a ∈ r → agr a 0 b = true) ∧ r.Pairwise fun b a => agr a 0 b = true
  | [], p => by simp [agreeG]
  | a :: r, p => by
    have ih := agreeG_iff r (p ++ [a])
    simp only [agreeG_at, Bool.and_eq_true, ih, List.all_eq_true, List.pairwise_cons, List.mem_append, List.mem_cons]
    constructor
    · rintro ⟨h1, h2, h3⟩
      refine ⟨fun b hb c hc => ?_, fun c hc => h2 a (.inr (.inl rfl)) c hc, h3⟩
      rcases hc with q | q
      · subst q; exact h1 b hb
      · exact h2 b (.inl hb) c q
    · rintro ⟨h1, h2, h3⟩
      refine ⟨fun b hb => h1 b hb a (.inl rfl), fun b hb c hc => ?_, h3⟩
      rcases hb with q | q | q
      · exact h1 b q c (.inr hc)
      · subst q; exact h2 c hc
      · simp at q
/-- Of no two clients the orders are unlike. -/
def agreeS (f : Int → Ids) : Prop := ∀ c d, same2 (f c) (f d)
theorem agreeR_iff (l : List Mk) : agreeR (rowsF l) = true ↔ agreeS (firF l) := by
  have hn : ∀ c, (firF l c).Nodup := fun c => nodup_ddF _
  unfold agreeR
  rw [agreeG_iff]
  unfold rowsF
  rw [List.pairwise_map]
  have hcn : (cliF l).Nodup := nodup_ddF _
  rw [pairwise_idx hcn]
  constructor
  · rintro ⟨_, h⟩ c d
    by_cases hc : c ∈ cliF l
    · by_cases hd : d ∈ cliF l
      · rcases Nat.lt_trichotomy (idxK (cliF l) c) (idxK (cliF l) d) with q | q | q
        · exact ((agr_same (hn c)).1 (h _ _ c d q (idx_at hc) (idx_at hd))).symm
        · have h1 := idx_at hc
          have h2 := idx_at hd
          rw [q, h2] at h1
          cases h1
          intro x y _ _ _ _ hlt; exact hlt
        · exact (agr_same (hn d)).1 (h _ _ d c q (idx_at hd) (idx_at hc))
      · intro x y _ _ hx; rw [firF_nil hd] at hx; simp at hx
    · intro x y hx; rw [firF_nil hc] at hx; simp at hx
  · intro h
    exact ⟨by simp, fun i j c d _ _ _ => (agr_same (hn c)).2 (h d c)⟩

/-! ### beginnings, and with one client less -/

theorem ddF_prefix {α : Type} [DecidableEq α] (l m : List α) : ∃ r, ddF (l ++ m) = ddF l ++ r := by
  induction m using list_end with
  | h0 => exact ⟨[], by simp⟩
  | h1 m x ih =>
    obtain ⟨r, hr⟩ := ih
    rw [← List.append_assoc, ddF_app, hr]
    unfold insK
    split
    · exact ⟨r, rfl⟩
    · exact ⟨r ++ [x], by rw [List.append_assoc]⟩
theorem firF_prefix (l m : List Mk) (c : Int) : ∃ r, firF (l ++ m) c = firF l c ++ r := by
  unfold firF
  rw [heardL_app]
  exact ddF_prefix _ _
theorem agreeS_take {l : List Mk} (h : agreeS (firF l)) (k : Nat) : agreeS (firF (l.take k)) := fun c d x y hx hy hx' hy' hlt => by
  have e : l = l.take k ++ l.drop k := (List.take_append_drop _ _).symm
  obtain ⟨r, hr⟩ := firF_prefix (l.take k) (l.drop k) c
  obtain ⟨s, hs⟩ := firF_prefix (l.take k) (l.drop k) d
  rw [← e] at hr hs
  have := h c d x y (by rw [hr]; simp [hx]) (by rw [hr]; simp [hy]) (by rw [hs]; simp [hx']) (by rw [hs]; simp [hy']) (by rw [hs, idxK_old hx', idxK_old hy']; exact hlt)
  rw [hr, idxK_old hx, idxK_old hy] at this
  exact this
/-- Without what one client heard. -/
def lessW (who : Int) (m : Mk) : Bool := m.sent || m.c != who
theorem heardL_less (l : List Mk) (who c : Int) : heardL (l.filter (lessW who)) c = if c = who then [] else heardL l c := by
  unfold heardL
  rw [List.filter_filter]
  split
  · rename_i h
    subst h
    rw [List.map_eq_nil_iff, List.filter_eq_nil_iff]
    intro m _ q
    simp [heardBy, lessW] at q
    rcases q.2 with z | z
    · rw [z] at q; simp at q
    · exact z q.1.2
  · rename_i h
    congr 1
    apply List.filter_congr
    intro m _
    simp only [heardBy, lessW]
    cases m.sent with
    | true => simp
    | false =>
      by_cases hc : m.c = c
      · subst hc; simp [h]
      · simp [hc]
theorem firF_less (l : List Mk) (who c : Int) : firF (l.filter (lessW who)) c = if c = who then [] else firF l c := by
  unfold firF
  rw [heardL_less]
  split <;> simp [ddF]
theorem agreeS_less {l : List Mk} (h : agreeS (firF l)) (who : Int) : agreeS (firF (l.filter (lessW who))) := fun c d x y hx hy hx' hy' hlt => by
  rw [firF_less] at *
  split at hx
  · simp at hx
  · split at hx'
    · simp at hx'
    · rename_i h1 h2
      rw [if_neg h1] at *
      rw [if_neg h2] at *
      exact h c d x y hx hy hx' hy' hlt

theorem onceG_take : ∀ (l p : List Mk) (k : Nat), onceG p l = true → onceG p (l.take k) = true
  | [], p, k, h => by simpa using h
  | m :: r, p, 0, _ => by simp [onceG]
  | m :: r, p, k + 1, h => by
    simp only [onceG, Bool.and_eq_true, List.take_succ_cons] at h ⊢
    exact ⟨h.1, onceG_take r _ k h.2⟩
theorem okM_less {p : List Mk} {m : Mk} {who : Int} (h : okM p m = true) : okM (p.filter (lessW who)) m = true := by
  have hs : sentC (p.filter (lessW who)) = sentC p := by
    funext x
    unfold sentC
    rw [List.filter_filter]
    congr 2
    apply List.filter_congr
    intro k _
    cases hk : k.sent <;> simp [lessW, hk]
  have hh : heardC (p.filter (lessW who)) m ≤ heardC p m := by
    unfold heardC
    rw [List.filter_filter]
    have : (List.filter (fun a => (!a.sent && decide (a = m)) && lessW who a) p).length ≤ (List.filter (fun k => !k.sent && decide (k = m)) p).length := by
      rw [← List.filter_filter]
      rw [show List.filter (fun a => !a.sent && decide (a = m)) (List.filter (fun a => lessW who a) p) = List.filter (fun a => lessW who a) (List.filter (fun a => !a.sent && decide (a = m)) p) from by
        rw [List.filter_filter, List.filter_filter]; congr 1; funext a; rw [Bool.and_comm]]
      exact List.length_filter_le _ _
    omega
  have h0 := (heardC_le (p.filter (lessW who)) m).1
  unfold okM at h ⊢
  rw [hs]
  split
  · rename_i k; rw [if_pos k] at h; exact h
  · rename_i k
    rw [if_neg k] at h
    simp at h ⊢
    exact ⟨by omega, h.2⟩
theorem onceG_less (who : Int) : ∀ (l p : List Mk), onceG p l = true → onceG (p.filter (lessW who)) (l.filter (lessW who)) = true
  | [], p, _ => by simp [onceG]
  | m :: r, p, h => by
    simp only [onceG, Bool.and_eq_true] at h
    have ih := onceG_less who r (p ++ [m]) h.2
    by_cases hm : lessW who m = true
    · rw [List.filter_cons_of_pos hm]
      simp only [onceG, Bool.and_eq_true]
      refine ⟨okM_less h.1, ?_⟩
      rw [List.filter_append] at ih
      simpa [List.filter, hm] using ih
    · rw [List.filter_cons_of_neg hm]
      rw [List.filter_append] at ih
      simpa [List.filter, hm] using ih
end Go.Proofs.Ytochkdifpgelmaa

/-! What trace's Line tells: the loops. -/
namespace Go.Proofs.Ytochkdifpgelmaa
open Go.Ab

/-- How often. -/
def occ (l : List (Int × Int)) (x : Int × Int) : Int := ((l.filter fun y => decide (y = x)).length : Nat)
theorem occ_app (l : List (Int × Int)) (x : Int × Int) : occ (l ++ [x]) = updF (occ l) x (occ l x + 1) := by
  funext y
  unfold updF
  by_cases q : y = x
  · subst q; rw [if_pos rfl]; simp [occ]
  · rw [if_neg q]
    have q' : ¬ x = y := fun z => q z.symm
    simp [occ, List.filter_append, List.filter, q']
theorem occ_nil : occ [] = fun _ => 0 := by funext x; simp [occ]
theorem occ_le (l : List (Int × Int)) (x : Int × Int) : 0 ≤ occ l x ∧ occ l x ≤ l.length := by
  unfold occ
  have := List.length_filter_le (fun y => decide (y = x)) l
  omega
def cutF (x : Int × Int) : List (Int × Int) → List (Int × Int)
  | [] => []
  | y :: r => if y = x then r else y :: r
def headsF (A : List (List (Int × Int))) : List (Int × Int) := A.filterMap List.head?
def okF (Rf : List (Int × Int)) (A : List (List (Int × Int))) (x : Int × Int) : Bool := decide (occ (headsF A) x = occ Rf x)
def less1 (x : Int × Int) : Option (Int × Int) → Bool
  | none => true
  | some y => lt2 x y
def bestG (ok : Int × Int → Bool) : Option (Int × Int) → List (List (Int × Int)) → Option (Int × Int)
  | acc, [] => acc
  | acc, [] :: r => bestG ok acc r
  | acc, (x :: _) :: r => bestG ok (if ok x = true ∧ less1 x acc = true then some x else acc) r
def lineG (Rf : List (Int × Int)) : Nat → List (List (Int × Int)) → List (Int × Int) → Option (List (Int × Int))
  | 0, _, out => some out
  | n + 1, A, out => match bestG (okF Rf A) none A with
    | none => none
    | some x => lineG Rf n (A.map (cutF x)) (out ++ [x])
def lineF (R : List (List (Int × Int))) : Option (List (Int × Int)) := lineG R.flatten (ddF R.flatten).length R []

theorem gl_dropI {α : Type} {r : Rp α} {h0 h : Heap} {v : AVal} {xs : List α} {n lo : Nat} (g : Gl r h0 h v xs) (hn : r.n = n) (hl : lo ≤ xs.length) : ∃ v', slcR n v (some (.int .i64 (lo : Int))) none none = some v' ∧ Gl r h0 h v' (xs.drop lo) ∧ v'.blks = v.blks := by
  obtain ⟨v', q1, q2, q3⟩ := g.1.dropR hn hl
  have hg : Gro h0 h n v := hn ▸ g.2
  have := hg.dropR q1 (fun m hm => by rw [g.1.len] at hm; simp at hm; omega)
  exact ⟨v', q1, ⟨q2, hn.symm ▸ this⟩, q3⟩

section
variable {X : XTab}
theorem heardI {g : Heap} {v : AVal} {a p : List (Int × Int)} {b : Nat} {t : T} (o : Sl idR g v a) (hl : a.length + p.length ≤ 100000) (m0 : Mp (kTwo Try.prog 30 two30) g b (ddF p) (occ p)) (t29 : t 29 = v) (t30 : t 30 = I a.length) (t31 : t 31 = I 0) (t5 : t 5 = .mp b) :
    Tells (fun q => loopN (L_trace_Line_19 Try.prog (acallX Try.prog X q) q) q t g) fun z g' => z.1 = .exit 2 ∧ Mp (kTwo Try.prog 30 two30) g' b (ddF (p ++ a)) (occ (p ++ a)) ∧ Ext [b] g g' ∧ Frm [9, 31, 32, 33, 34, 35, 36, 37, 38, 39, 40, 41] t z.2 := by
  refine Tells.loop (fun n t' g' => ∃ i : Nat, t' 31 = I i ∧ i + n = a.length ∧ Mp (kTwo Try.prog 30 two30) g' b (ddF (p ++ a.take i)) (occ (p ++ a.take i)) ∧ Ext [b] g g' ∧ Frm [9, 31, 32, 33, 34, 35, 36, 37, 38, 39, 40, 41] t t') ?_ a.length _ _ ?_
  · rintro n u g1 ⟨i, u31, hi, M, x, fr⟩
    have u29 : u 29 = v := (fr 29 rfl).trans t29
    have u30 : u 30 = I a.length := (fr 30 rfl).trans t30
    have u5 : u 5 = .mp b := (fr 5 rfl).trans t5
    refine Tells.prot fun Q2 hQ2 => ?_
    unfold L_trace_Line_19
    simp [u31, u30]
    refine Tells.cb (fun hc => ?_) (fun hc => ?_)
    · simp at hc
      obtain ⟨y, hy⟩ : ∃ y, a[i]? = some y := ⟨_, List.getElem?_eq_getElem hc⟩
      obtain ⟨b1, pp, B, q1, q2, q3, q4, q5, q6, q7⟩ := id_at (o.ext x) hy
      have htk : p ++ a.take (i + 1) = p ++ a.take i ++ [y] := by rw [List.take_add_one, hy, List.append_assoc]; rfl
      have w : IntKind.i64.wrap ((i : Int) + 1) = i + 1 := wrap_id (by omega) (by omega)
      have ol := occ_le (p ++ a.take i) y
      simp at ol
      simp [J_trace_Line_20, u31, u29, q1, q2, q3, q4]
      refine Tells.newSt (ds := idC y) (by rfl) (by rfl) (by rfl) (by rfl) fun g2 b2 o2 x2 l2 => ?_
      simp [o2.1, idC, u5]
      refine Tells.inc (M.e x2) mt47 tz3 (a := y) (κ := .agg [I y.1, I y.2]) (by rfl) ⟨by omega, by omega⟩ fun g3 M3 x3 => ?_
      simp [J_trace_Line_21, u31, w]
      refine Tells.ok (hQ2 _ _ (.inl ⟨rfl, n - 1, by omega, i + 1, by simp, by omega, ?_, (x.quiet x2).trans x3, ?_⟩))
      · rw [htk, ddF_app, occ_app]; exact M3
      · repeat (first | exact fr | refine Frm.u ?_ _ _ (by decide))
    · simp at hc
      refine Tells.ok (hQ2 _ _ (.inr ⟨by simp, rfl, ?_, x, fr.u _ _⟩))
      rw [List.take_of_length_le (by omega)] at M; exact M
  · exact ⟨0, by simp [t31], by omega, by simpa using m0, .refl, .refl⟩

theorem heardO {g : Heap} {v : AVal} {R : List (List (Int × Int))} {b : Nat} {t : T} (o : Sl (rowR idR) g v R) (hl : R.length ≤ 100) (hr : ∀ a, a ∈ R → a.length ≤ 100) (m0 : Mp (kTwo Try.prog 30 two30) g b [] (fun _ => 0)) (t23 : t 23 = v) (t24 : t 24 = I R.length) (t25 : t 25 = I 0) (t5 : t 5 = .mp b) :
    Tells (fun q => loopN (L_trace_Line_16 Try.prog (acallX Try.prog X q) q) q t g) fun z g' => z.1 = .exit 0 ∧ Mp (kTwo Try.prog 30 two30) g' b (ddF R.flatten) (occ R.flatten) ∧ Ext [b] g g' ∧ (∀ i, i ≤ 6 → z.2 i = t i) := by
  have fl : ∀ k, (R.take k).flatten.length ≤ k * 100 := fun k => by
    induction k with
    | zero => simp
    | succ k ih =>
      rw [List.take_add_one, List.flatten_append, List.length_append]
      cases hk : R[k]? with
      | none => simp only [Option.toList_none, List.flatten_nil, List.length_nil]; omega
      | some a =>
        have := hr a (List.mem_of_getElem? hk)
        simp only [Option.toList_some, List.flatten_cons, List.flatten_nil, List.append_nil]; omega
  refine Tells.loop (fun n t' g' => ∃ i : Nat, t' 25 = I i ∧ i + n = R.length ∧ Mp (kTwo Try.prog 30 two30) g' b (ddF (R.take i).flatten) (occ (R.take i).flatten) ∧ Ext [b] g g' ∧ (∀ i, i ≤ 6 ∨ i = 23 ∨ i = 24 → t' i = t i)) ?_ R.length _ _ ?_
  · rintro n u g1 ⟨i, u25, hi, M, x, fr⟩
    have u23 : u 23 = v := (fr 23 (by decide)).trans t23
    have u24 : u 24 = I R.length := (fr 24 (by decide)).trans t24
    have u5 : u 5 = .mp b := (fr 5 (by decide)).trans t5
    refine Tells.prot fun Q2 hQ2 => ?_
    unfold L_trace_Line_16
    simp [u25, u24]
    refine Tells.cb (fun hc => ?_) (fun hc => ?_)
    · simp at hc
      obtain ⟨a, hy⟩ : ∃ a, R[i]? = some a := ⟨_, List.getElem?_eq_getElem hc⟩
      obtain ⟨b1, pp, B, w1, q1, q2, q3, q4⟩ := row_at (o.ext x) hy
      have hfl : (R.take (i + 1)).flatten = (R.take i).flatten ++ a := by rw [List.take_add_one, hy]; simp
      have hi2 := fl (i + 1)
      rw [hfl, List.length_append] at hi2
      have w : IntKind.i64.wrap ((i : Int) + 1) = i + 1 := wrap_id (by omega) (by omega)
      simp [J_trace_Line_17, u25, u23, q1, q2, q3, q4.len]
      refine Tells.bind (heardI (b := b) (p := (R.take i).flatten) q4 (by omega) M (by simp) (by simp) (by simp) (by simp [u5])) ?_
      rintro ⟨ex, t2⟩ g2 ⟨rfl, M2, x2, f2⟩
      have k25 : t2 25 = I i := (f2 25 rfl).trans (by simp [u25])
      simp [J_trace_Line_18, k25, w]
      refine Tells.ok (hQ2 _ _ (.inl ⟨rfl, n - 1, by omega, i + 1, by simp, by omega, by rw [hfl]; exact M2, x.trans x2, fun j hj => ?_⟩))
      have : t2 j = _ := f2 j (by simp; omega)
      simp only [upd]
      rw [if_neg (by omega), if_neg (by omega), this]
      simp only [upd]
      repeat rw [if_neg (by omega)]
      exact fr j hj
    · simp at hc
      refine Tells.ok (hQ2 _ _ (.inr ⟨by simp, rfl, ?_, x, fun j hj => ?_⟩))
      · rw [List.take_of_length_le (by omega)] at M; exact M
      · simp only [upd]
        rw [if_neg (by omega)]
        exact fr j (.inl hj)
  · exact ⟨0, by simp [t25], by omega, by simpa [ddF, occ_nil] using m0, .refl, fun _ _ => rfl⟩

theorem nextL {g : Heap} {v : AVal} {A : List (List (Int × Int))} {b : Nat} {t : T} (o : Sl (rowR idR) g v A) (hl : A.length ≤ 100) (m0 : Mp (kTwo Try.prog 30 two30) g b [] (fun _ => 0)) (t49 : t 49 = v) (t50 : t 50 = I A.length) (t51 : t 51 = I 0) (t11 : t 11 = .mp b) :
    Tells (fun q => loopN (L_trace_Line_13 Try.prog (acallX Try.prog X q) q) q t g) fun z g' => z.1 = .exit 6 ∧ Mp (kTwo Try.prog 30 two30) g' b (ddF (headsF A)) (occ (headsF A)) ∧ Ext [b] g g' ∧ Frm [15, 51, 52, 53, 54, 55, 56, 57, 58, 59, 60, 61, 62, 63, 64, 65, 66] t z.2 := by
  have hh : ∀ k, (headsF (A.take k)).length ≤ k := fun k => by
    refine Nat.le_trans (List.length_filterMap_le _ _) ?_
    simp; omega
  refine Tells.loop (fun n t' g' => ∃ i : Nat, t' 51 = I i ∧ i + n = A.length ∧ Mp (kTwo Try.prog 30 two30) g' b (ddF (headsF (A.take i))) (occ (headsF (A.take i))) ∧ Ext [b] g g' ∧ Frm [15, 51, 52, 53, 54, 55, 56, 57, 58, 59, 60, 61, 62, 63, 64, 65, 66] t t') ?_ A.length _ _ ?_
  · rintro n u g1 ⟨i, u51, hi, M, x, fr⟩
    have u49 : u 49 = v := (fr 49 rfl).trans t49
    have u50 : u 50 = I A.length := (fr 50 rfl).trans t50
    have u11 : u 11 = .mp b := (fr 11 rfl).trans t11
    refine Tells.prot fun Q2 hQ2 => ?_
    unfold L_trace_Line_13
    simp [u51, u50]
    refine Tells.cb (fun hc => ?_) (fun hc => ?_)
    · simp at hc
      obtain ⟨a, hy⟩ : ∃ a, A[i]? = some a := ⟨_, List.getElem?_eq_getElem hc⟩
      obtain ⟨b1, pp, B, w1, q1, q2, q3, q4⟩ := row_at (o.ext x) hy
      have w : IntKind.i64.wrap ((i : Int) + 1) = i + 1 := wrap_id (by omega) (by omega)
      have hhi := hh i
      simp [J_trace_Line_14, u51, u49, q1, q2, q3, q4.len]
      cases a with
      | nil =>
        have htk : headsF (A.take (i + 1)) = headsF (A.take i) := by unfold headsF; rw [List.take_add_one, hy]; simp
        simp [J_trace_Line_15, u51, w]
        refine Tells.ok (hQ2 _ _ (.inl ⟨rfl, n - 1, by omega, i + 1, by simp, by omega, by rw [htk]; exact M, x, ?_⟩))
        repeat (first | exact fr | refine Frm.u ?_ _ _ (by decide))
      | cons y r =>
        have htk : headsF (A.take (i + 1)) = headsF (A.take i) ++ [y] := by unfold headsF; rw [List.take_add_one, hy]; simp
        have ol := occ_le (headsF (A.take i)) y
        obtain ⟨b3, p3, B3, r1, r2, r3, r4, _⟩ := id_at q4 (i := 0) (x := y) rfl
        have r1' : ixsR 2 w1 (.int .i64 0) = some (.ptr b3 p3) := r1
        have hpos : (0 : Int) < ((r.length : Int) + 1) := by omega
        simp [hpos, r1', r2, r3, r4, u11]
        refine Tells.inc M mt47 tz3 (a := y) (κ := .agg [I y.1, I y.2]) (by rfl) ⟨by omega, by omega⟩ fun g3 M3 x3 => ?_
        simp [J_trace_Line_15, u51, w]
        refine Tells.ok (hQ2 _ _ (.inl ⟨rfl, n - 1, by omega, i + 1, by simp, by omega, ?_, x.trans x3, ?_⟩))
        · rw [htk, ddF_app, occ_app]; exact M3
        · repeat (first | exact fr | refine Frm.u ?_ _ _ (by decide))
    · simp at hc
      refine Tells.ok (hQ2 _ _ (.inr ⟨by simp, rfl, ?_, x, fr.u _ _⟩))
      rw [List.take_of_length_le (by omega)] at M; exact M
  · exact ⟨0, by simp [t51], by omega, by simpa [ddF, headsF, occ_nil] using m0, .refl, .refl⟩

theorem bestL (hX : OnlyKnown X) {g : Heap} {v : AVal} {A : List (List (Int × Int))} {Rf : List (Int × Int)} {bn bh bb : Nat} {k1 k2 : List (Int × Int)} {y0 : Int × Int} {t : T} (o : Sl (rowR idR) g v A) (hl : A.length ≤ 100) (mn : Mp (kTwo Try.prog 30 two30) g bn k1 (occ (headsF A))) (mh : Mp (kTwo Try.prog 30 two30) g bh k2 (occ Rf))
    (ob : Ob g bb (idC y0)) (hbn : bn ≠ bb) (hbh : bh ≠ bb) (t67 : t 67 = v) (t68 : t 68 = I A.length) (t69 : t 69 = I 0) (t11 : t 11 = .mp bn) (t5 : t 5 = .mp bh) (t12 : t 12 = .ptr bb 0) (t13 : t 13 = .bool false) :
    Tells (fun q => loopN (L_trace_Line_10 Try.prog (acallX Try.prog X q) q) q t g) fun z g' => z.1 = .exit 8 ∧ Ext [bb] g g' ∧ z.2 13 = .bool (bestG (okF Rf A) none A).isSome ∧ (∃ y, Ob g' bb (idC y) ∧ ∀ x, bestG (okF Rf A) none A = some x → y = x) ∧ ∀ i, i ≤ 12 → z.2 i = t i := by
  refine Tells.loop (fun n t' g' => ∃ (i : Nat) (acc : Option (Int × Int)), t' 69 = I i ∧ i + n = A.length ∧ Ext [bb] g g' ∧ t' 13 = .bool acc.isSome ∧ (∃ y, Ob g' bb (idC y) ∧ ∀ x, acc = some x → y = x) ∧ bestG (okF Rf A) acc (A.drop i) = bestG (okF Rf A) none A ∧ ∀ i, i ≤ 12 ∨ i = 67 ∨ i = 68 → t' i = t i) ?_ A.length _ _ ?_
  · rintro n u g1 ⟨i, acc, u69, hi, x, u13, ⟨y, oy, hy1⟩, hbest, fr⟩
    have u67 : u 67 = v := (fr 67 (by decide)).trans t67
    have u68 : u 68 = I A.length := (fr 68 (by decide)).trans t68
    have u11 : u 11 = .mp bn := (fr 11 (by decide)).trans t11
    have u5 : u 5 = .mp bh := (fr 5 (by decide)).trans t5
    have u12 : u 12 = .ptr bb 0 := (fr 12 (by decide)).trans t12
    refine Tells.prot fun Q2 hQ2 => ?_
    unfold L_trace_Line_10
    simp [u69, u68]
    refine Tells.cb (fun hc => ?_) (fun hc => ?_)
    · simp at hc
      obtain ⟨a, hy⟩ : ∃ a, A[i]? = some a := ⟨_, List.getElem?_eq_getElem hc⟩
      have hdr : A.drop i = a :: A.drop (i + 1) := by
        rw [List.drop_eq_getElem_cons hc]
        rw [List.getElem?_eq_getElem hc] at hy
        cases hy; rfl
      rw [hdr] at hbest
      obtain ⟨b1, pp, B, w1, q1, q2, q3, q4⟩ := row_at (o.ext x) hy
      have w : IntKind.i64.wrap ((i : Int) + 1) = i + 1 := wrap_id (by omega) (by omega)
      simp [J_trace_Line_11, u69, u67, q1, q2, q3, q4.len]
      have fin : ∀ (t2 : T) (j : Nat), (j ≤ 12 ∨ j = 67 ∨ j = 68) → (∀ j, j ≤ 12 ∨ j = 67 ∨ j = 68 → t2 j = u j) → t2 j = t j := fun t2 j hj h => (h j hj).trans (fr j hj)
      cases a with
      | nil =>
        simp only [bestG] at hbest
        simp [J_trace_Line_12, u69, w]
        refine Tells.ok (hQ2 _ _ (.inl ⟨rfl, n - 1, by omega, i + 1, acc, by simp, by omega, x, by simp [u13], ⟨y, oy, hy1⟩, hbest, fun j hj => ?_⟩))
        simp only [upd]
        repeat rw [if_neg (by omega)]
        exact fr j hj
      | cons z r =>
        obtain ⟨b3, p3, B3, r1, r2, r3, r4, r5, _⟩ := id_at q4 (i := 0) (x := z) rfl
        have r1' : ixsR 2 w1 (.int .i64 0) = some (.ptr b3 p3) := r1
        have hpos : (0 : Int) < ((r.length : Int) + 1) := by omega
        have e1 := (mn.ext x (by simp; exact hbn)).look2 mt47 tz3 z
        have e2 := (mh.ext x (by simp; exact hbh)).look2 mt47 tz3 z
        simp only [bestG] at hbest
        simp [hpos, r1', r2, r3, r4, u11, u5, e1, e2, u13]
        by_cases hok : occ (headsF A) z = occ Rf z
        · have hok' : (occ (headsF A) z == occ Rf z) = true := by simpa using hok
          have hok2 : okF Rf A z = true := by simp [okF, hok]
          rw [hok2] at hbest
          have step : ∀ (g2 : Heap), Ext [] g1 g2 → ∀ (v203 v205 : AVal), ∃ g3, stR 2 g2 (.ptr bb 0) (.agg (idC z)) = .val aUndef g3 ∧ Ob g3 bb (idC z) ∧ Ext [bb] g2 g3 := fun g2 x2 _ _ => (oy.e x2).stN (n := 2) (v := .agg (idC z)) (by rfl) (by rfl) (by rfl)
          cases acc with
          | none =>
            have hl1 : less1 z none = true := rfl
            rw [if_pos ⟨rfl, hl1⟩] at hbest
            obtain ⟨g3, s1, s2, s3⟩ := step g1 .refl .nils .nils
            have s1' : stR 2 g1 (.ptr bb 0) (.agg [I z.1, I z.2]) = .val aUndef g3 := s1
            simp [hok, hok', u13, r1', r2, r3, r4, u12, s1', J_trace_Line_12, u69, w]
            refine Tells.ok (hQ2 _ _ (.inl ⟨rfl, n - 1, by omega, i + 1, some z, by simp, by omega, x.trans s3, by simp, ⟨z, s2, fun _ h => by cases h; rfl⟩, hbest, fun j hj => ?_⟩))
            simp only [upd]
            repeat rw [if_neg (by omega)]
            exact fr j hj
          | some y' =>
            have := hy1 y' rfl
            subst this
            simp [hok, hok', u13, r1', r2, r3, r4, u12, oy.1, idC]
            refine Tells.cbE (by simpa [idC] using trace_ahead hX z y g1) ?_
            rintro _ g2 ⟨rfl, x2⟩
            have hb3 : g2.get b3 = some B3 := by rw [x2.get b3 (.inl r5) (by rw [r2]; rfl)]; exact r2
            by_cases hlt : lt2 z y = true
            · have hl1 : less1 z (some y) = true := hlt
              rw [if_pos ⟨rfl, hl1⟩] at hbest
              obtain ⟨g3, s1, s2, s3⟩ := step g2 x2 .nils .nils
              have s1' : stR 2 g2 (.ptr bb 0) (.agg [I z.1, I z.2]) = .val aUndef g3 := s1
              simp [hlt, r1', hb3, r3, r4, u12, s1', J_trace_Line_12, u69, w]
              refine Tells.ok (hQ2 _ _ (.inl ⟨rfl, n - 1, by omega, i + 1, some z, by simp, by omega, (x.quiet x2).trans s3, by simp, ⟨z, s2, fun _ h => by cases h; rfl⟩, hbest, fun j hj => ?_⟩))
              simp only [upd]
              repeat rw [if_neg (by omega)]
              exact fr j hj
            · have hlt' : lt2 z y = false := by simpa using hlt
              have hl1 : ¬ less1 z (some y) = true := hlt
              rw [if_neg (fun q => hl1 q.2)] at hbest
              simp [hlt', J_trace_Line_12, u69, w]
              refine Tells.ok (hQ2 _ _ (.inl ⟨rfl, n - 1, by omega, i + 1, some y, by simp, by omega, x.quiet x2, by simp [u13], ⟨y, oy.e x2, hy1⟩, hbest, fun j hj => ?_⟩))
              simp only [upd]
              repeat rw [if_neg (by omega)]
              exact fr j hj
        · have hok' : (occ (headsF A) z == occ Rf z) = false := by simpa using hok
          have hok2 : okF Rf A z = false := by simp [okF, hok]
          rw [hok2, if_neg (by simp)] at hbest
          simp [hok, hok', J_trace_Line_12, u69, w]
          refine Tells.ok (hQ2 _ _ (.inl ⟨rfl, n - 1, by omega, i + 1, acc, by simp, by omega, x, by simp [u13], ⟨y, oy, hy1⟩, hbest, fun j hj => ?_⟩))
          simp only [upd]
          repeat rw [if_neg (by omega)]
          exact fr j hj
    · simp at hc
      rw [List.drop_of_length_le (by omega)] at hbest
      simp only [bestG] at hbest
      refine Tells.ok (hQ2 _ _ (.inr ⟨by simp, rfl, x, ?_, ⟨y, oy, ?_⟩, fun j hj => ?_⟩))
      · rw [← hbest]; simpa using u13
      · rw [← hbest]; exact hy1
      · simp only [upd]
        rw [if_neg (by omega)]
        exact fr j (.inl hj)
  · exact ⟨0, none, by simp [t69], by omega, .refl, by simp [t13], ⟨y0, ob, fun _ h => by cases h⟩, by simp, fun _ _ => rfl⟩
end
end Go.Proofs.Ytochkdifpgelmaa

/-! What trace's first and lay tell. -/
namespace Go.Proofs.Ytochkdifpgelmaa
open Go.Ab

def isSent (x : Int × Int) (m : Mk) : Bool := m.sent && decide (mid m = x)
/-- With which mark it was sent first. -/
def firstS (l : List Mk) (x : Int × Int) : Int := match l.findIdx? (isSent x) with
  | some i => (i : Nat)
  | none => -1
theorem firstS_none {l : List Mk} {x : Int × Int} (h : ∀ m, m ∈ l → isSent x m = false) : firstS l x = -1 := by
  unfold firstS
  rw [List.findIdx?_eq_none_iff.2 h]
theorem firstS_some {l : List Mk} {x : Int × Int} {i : Nat} {m : Mk} (h : l[i]? = some m) (hm : isSent x m = true) (hj : ∀ k, k ∈ l.take i → isSent x k = false) : firstS l x = i := by
  unfold firstS
  have hi := (List.getElem?_eq_some_iff.1 h).1
  have e : l.findIdx? (isSent x) = some i := by
    rw [List.findIdx?_eq_some_iff_getElem]
    refine ⟨hi, ?_, fun j hji => ?_⟩
    · rw [List.getElem?_eq_getElem hi] at h
      cases h; exact hm
    · have := hj l[j] (by rw [List.mem_take_iff_getElem]; exact ⟨j, by omega, rfl⟩)
      simp [this]
  rw [e]
theorem firstS_ge (l : List Mk) (x : Int × Int) : -1 ≤ firstS l x ∧ firstS l x ≤ l.length := by
  unfold firstS
  split
  · rename_i i h
    have := (List.findIdx?_eq_some_iff_getElem.1 h).1
    omega
  · omega
/-- Into a rising row, once. -/
def layN (l : List (Int × Int)) (x : Int × Int) : Nat := (l.takeWhile fun y => lt2 y x).length
def layF (l : List (Int × Int)) (x : Int × Int) : List (Int × Int) := if l[layN l x]? = some x then l else l.take (layN l x) ++ [x] ++ l.drop (layN l x)
theorem layN_le (l : List (Int × Int)) (x : Int × Int) : layN l x ≤ l.length := List.Sublist.length_le (List.takeWhile_sublist _)
theorem tw_all {α : Type} (p : α → Bool) : ∀ (l : List α) (y : α), y ∈ l.takeWhile p → p y = true
  | [], y, h => by simp at h
  | z :: r, y, h => by
    cases hp : p z with
    | false => simp [List.takeWhile, hp] at h
    | true =>
      simp [List.takeWhile, hp] at h
      rcases h with h | h
      · rw [h]; exact hp
      · exact tw_all p r y h
theorem layN_all {l : List (Int × Int)} {x : Int × Int} : ∀ y, y ∈ l.take (layN l x) → lt2 y x = true := by
  have : l.take (layN l x) = l.takeWhile fun y => lt2 y x := by
    unfold layN
    exact (List.prefix_iff_eq_take.1 (List.takeWhile_prefix _)).symm
  rw [this]
  exact tw_all _ l
theorem layN_of {x : Int × Int} : ∀ {l : List (Int × Int)} {i : Nat}, (∀ y, y ∈ l.take i → lt2 y x = true) → i ≤ l.length → (∀ y, l[i]? = some y → lt2 y x = false) → layN l x = i
  | [], i, _, hi, _ => by simp at hi; subst hi; simp [layN]
  | y :: r, 0, _, _, h => by
    have := h y rfl
    simp [layN, this]
  | y :: r, i + 1, h1, h2, h3 => by
    have hy := h1 y (by simp)
    have ih := layN_of (l := r) (i := i) (fun z hz => h1 z (by simp [hz])) (by simpa using h2) (fun z hz => h3 z (by simpa using hz))
    simp only [layN] at ih ⊢
    simp [List.takeWhile, hy, ih]

theorem twoEqL {x y : Int × Int} : (y.1 == x.1 && y.2 == x.2) = decide (y = x) := by
  obtain ⟨a, b⟩ := x
  obtain ⟨c, d⟩ := y
  by_cases q1 : c = a <;> by_cases q2 : d = b <;> simp [q1, q2]
section
variable {X : XTab}
theorem trace_first (hX : OnlyKnown X) {h : Heap} {v : AVal} {l : List Mk} (o : Sl mkR h v l) (hl : l.length ≤ 100) (y : Int × Int) : Tells (fun q => acallX Try.prog X q F_trace_first [v, .agg (idC y)] h) fun r h' => r = I (firstS l y) ∧ Ext [] h h' := by
  refine R_trace_first _ _ (hX _ _ rfl) ?_
  refine Tells.prot fun Q' hQ => ?_
  unfold S_trace_first
  simp
  refine Tells.box (cs := idC y) (by rfl) (by rfl) fun h1 bx ox x1 lx => ?_
  simp [(o.ext x1).len]
  refine Tells.bind (Tells.loop (fun n t g => ∃ i : Nat, t 3 = .ptr bx 0 ∧ t 7 = v ∧ t 8 = I l.length ∧ t 9 = I i ∧ i + n = l.length ∧ Ext [] h1 g ∧ ∀ k, k ∈ l.take i → isSent y k = false)
    (Q := fun p g => Ext [] h1 g ∧ ((p.1 = .exit 0 ∧ firstS l y = -1) ∨ (p.1 = .ret ∧ p.2 4 = I (firstS l y)))) ?_ l.length _ _ ?_) ?_
  · rintro n t g ⟨i, t3, t7, t8, t9, hi, x, hno⟩
    refine Tells.prot fun Q2 hQ2 => ?_
    unfold L_trace_first_1
    simp [t9, t8]
    refine Tells.cb (fun hc => ?_) (fun hc => ?_)
    · simp at hc
      obtain ⟨m, hm⟩ : ∃ m, l[i]? = some m := ⟨_, List.getElem?_eq_getElem hc⟩
      obtain ⟨b, p, B, q1, q2, q3, q4, q5, q6, q7, q8, q9⟩ := mk_at ((o.ext x1).ext x) hm
      have htk : l.take (i + 1) = l.take i ++ [m] := by rw [List.take_add_one, hm]; rfl
      have w : IntKind.i64.wrap ((i : Int) + 1) = i + 1 := wrap_id (by omega) (by omega)
      simp [J_trace_first_2, t7, t9, q1, q2, q3, q4]
      refine Tells.newSt (ds := mkC m) (by rfl) (by rfl) (by rfl) (by rfl) fun g1 bm om y1 l1 => ?_
      simp [om.1, mkC]
      by_cases ks : m.sent = true
      · simp [ks, om.1, mkC]
        refine Tells.cbE (by simpa [mkC, ks] using trace_id hX m g1) ?_
        rintro _ g2 ⟨rfl, y2⟩
        have ox1 := (ox.e x).e y1
        have oxe := ox1.1
        have oxe2 := (ox1.e y2).1
        simp only [idC] at oxe oxe2
        simp [t3, oxe, oxe2, idC, aBin_eql2 two30]
        by_cases hq : mid m = y
        · have hq1 : (mid m).1 = y.1 := by rw [hq]
          have hq2 : (mid m).2 = y.2 := by rw [hq]
          simp [hq1, hq2]
          refine Tells.ok (hQ2 _ _ (.inr ⟨by simp, (x.trans y1).trans y2, .inr ⟨rfl, ?_⟩⟩))
          rw [firstS_some hm (by simp [isSent, ks, hq]) hno]
          simp
        · have hne : ¬ ((mid m).1 = y.1 ∧ (mid m).2 = y.2) := fun z => hq (Prod.ext z.1 z.2)
          have hne' : ((mid m).1 == y.1 && (mid m).2 == y.2) = false := by
            cases hb : ((mid m).1 == y.1 && (mid m).2 == y.2) with
            | false => rfl
            | true => simp at hb; exact absurd hb hne
          simp [hne, hne', J_trace_first_3, t9, w]
          refine Tells.ok (hQ2 _ _ (.inl ⟨rfl, n - 1, by omega, i + 1, by simp [t3], by simp [t7], by simp [t8], by simp, by omega, (x.trans y1).trans y2, fun k hk => ?_⟩))
          rw [htk] at hk
          rcases List.mem_append.1 hk with z | z
          · exact hno k z
          · simp at z; subst z; simp [isSent, hq]
      · have ks' : m.sent = false := by simpa using ks
        simp [ks', J_trace_first_3, t9, w]
        refine Tells.ok (hQ2 _ _ (.inl ⟨rfl, n - 1, by omega, i + 1, by simp [t3], by simp [t7], by simp [t8], by simp, by omega, x.trans y1, fun k hk => ?_⟩))
        rw [htk] at hk
        rcases List.mem_append.1 hk with z | z
        · exact hno k z
        · simp at z; subst z; simp [isSent, ks']
    · simp at hc
      rw [List.take_of_length_le (by omega)] at hno
      exact Tells.ok (hQ2 _ _ (.inr ⟨by simp, x, .inl ⟨rfl, firstS_none hno⟩⟩))
  · exact ⟨0, by simp, by simp, by simp, by simp, by omega, .refl, by simp⟩
  · rintro ⟨ex, t⟩ g ⟨x, ⟨rfl, ho⟩ | ⟨rfl, t4⟩⟩
    · simp [J_trace_first_0]
      exact Tells.ok (hQ _ _ ⟨by rw [ho], x1.trans x⟩)
    · simp
      exact Tells.ok (hQ _ _ ⟨t4, x1.trans x⟩)

theorem trace_lay (hX : OnlyKnown X) {h : Heap} {v : AVal} {l : List (Int × Int)} (o : Sl idR h v l) (hl : l.length ≤ 1000) (y : Int × Int) : Tells (fun q => acallX Try.prog X q F_trace_lay [v, .agg (idC y)] h) fun r h' => Sl idR h' r (layF l y) ∧ Ext [] h h' := by
  refine R_trace_lay _ _ (hX _ _ rfl) ?_
  refine Tells.prot fun Q' hQ => ?_
  unfold S_trace_lay
  simp
  refine Tells.box (cs := idC y) (by rfl) (by rfl) fun h1 bx ox x1 lx => ?_
  try simp
  refine Tells.bind (Tells.loop (fun n t g => ∃ i : Nat, t 0 = v ∧ t 3 = .ptr bx 0 ∧ t 5 = I i ∧ i + n = l.length ∧ Ext [] h1 g ∧ ∀ k, k ∈ l.take i → lt2 k y = true)
    (Q := fun p g => Ext [] h1 g ∧ p.1 = .exit 0 ∧ p.2 0 = v ∧ p.2 3 = .ptr bx 0 ∧ p.2 5 = I (layN l y)) ?_ l.length _ _ ?_) ?_
  · rintro n t g ⟨i, t0, t3, t5, hi, x, hno⟩
    refine Tells.prot fun Q2 hQ2 => ?_
    unfold L_trace_lay_2
    have og := (o.ext x1).ext x
    have oxe := (ox.e x).1
    simp only [idC] at oxe
    simp [t5, t0, og.len]
    by_cases hc : i < l.length
    · obtain ⟨k, hk⟩ : ∃ k, l[i]? = some k := ⟨_, List.getElem?_eq_getElem hc⟩
      obtain ⟨b, p, B, q1, q2, q3, q4, q5, q6, q7⟩ := id_at og hk
      have htk : l.take (i + 1) = l.take i ++ [k] := by rw [List.take_add_one, hk]; rfl
      have w : IntKind.i64.wrap ((i : Int) + 1) = i + 1 := wrap_id (by omega) (by omega)
      simp [hc, t5, t0, t3, q1, q2, q3, q4, oxe]
      refine Tells.cbE (by simpa [idC] using trace_ahead hX k y g) ?_
      rintro _ g2 ⟨rfl, y2⟩
      by_cases hlt : lt2 k y = true
      · simp [hlt, J_trace_lay_3, t5, w]
        refine Tells.ok (hQ2 _ _ (.inl ⟨rfl, n - 1, by omega, i + 1, by simp [t0], by simp [t3], by simp, by omega, x.trans y2, fun z hz => ?_⟩))
        rw [htk] at hz
        rcases List.mem_append.1 hz with q | q
        · exact hno z q
        · simp at q; subst q; exact hlt
      · have hlt' : lt2 k y = false := by simpa using hlt
        simp [hlt']
        refine Tells.ok (hQ2 _ _ (.inr ⟨by simp, x.trans y2, rfl, by simp [t0], by simp [t3], ?_⟩))
        rw [layN_of (i := i) hno (by omega) fun z hz => by rw [hk] at hz; cases hz; exact hlt']
        simp [t5]
    · have : i = l.length := by omega
      simp [hc]
      refine Tells.ok (hQ2 _ _ (.inr ⟨by simp, x, rfl, by simp [t0], by simp [t3], ?_⟩))
      rw [layN_of (i := i) hno (by omega) fun z hz => by have := (List.getElem?_eq_some_iff.1 hz).1; omega]
      simp [t5]
  · exact ⟨0, by simp, by simp, by simp, by omega, .refl, by simp⟩
  · rintro ⟨ex, t⟩ g ⟨x, rfl, t0, t3, t5⟩
    have t0 : t 0 = v := t0
    have t3 : t 3 = .ptr bx 0 := t3
    have t5 : t 5 = I (layN l y) := t5
    have og := (o.ext x1).ext x
    have oxg := ox.e x
    have oxe := oxg.1
    simp only [idC] at oxe
    have hle := layN_le l y
    have fin : ∀ t : T, t 0 = v → t 3 = .ptr bx 0 → t 5 = I (layN l y) → l[layN l y]? ≠ some y → Tells (fun z => J_trace_lay_1 Try.prog (acallX Try.prog X z) z (retK Try.prog [.tmp 4]) t g) Q' := by
      intro t t0 t3 t5 hne
      unfold J_trace_lay_1
      obtain ⟨u, s1, s2, s3⟩ := og.takeR (n := 2) rfl (hi := layN l y) hle
      simp [t0, t5, s1]
      refine Tells.copy (r := idR) s2 (by rfl) (by simp; omega) (by decide) fun v2 h2 g2 x2 w2 => ?_
      have oxe2 := (oxg.e x2).1
      simp only [idC] at oxe2
      simp [t3, oxe2]
      refine Tells.app1E (r := idR) (c := [I y.1, I y.2]) (x := y) g2 (by rfl) (by rfl) (by rfl) (by rfl) (by rfl) (by simp; omega) (by decide) x2.next fun v3 h3 g3 x3 y3 z3 => ?_
      have x03 := y3 _ x2
      obtain ⟨u2, r1, r2, r3⟩ := (og.ext x03).dropR (n := 2) rfl (lo := layN l y) hle
      simp [t0, t5, r1]
      refine Tells.appNE (r := idR) g3 r2 (by rfl) (by simp; omega) (by decide) x03.next fun v4 h4 g4 x4 y4 z4 => ?_
      try simp
      refine Tells.ok (hQ _ _ ⟨?_, (x1.trans x).trans (y4 _ x03)⟩)
      unfold layF
      rw [if_neg hne]
      simpa using g4.1
    simp
    unfold J_trace_lay_0
    by_cases hc : layN l y < l.length
    · obtain ⟨k, hk⟩ : ∃ k, l[layN l y]? = some k := ⟨_, List.getElem?_eq_getElem hc⟩
      obtain ⟨b, p, B, q1, q2, q3, q4, q5, q6, q7⟩ := id_at og hk
      have hci : (layN l y : Int) < (l.length : Int) := by omega
      simp [t0, t5, t3, og.len, hc, q1, q2, q3, q4, oxe, aBin_eql2 two30]
      by_cases hq : k = y
      · subst hq
        simp
        refine Tells.ok (hQ _ _ ⟨?_, x1.trans x⟩)
        unfold layF
        rw [if_pos hk]
        simpa [t0] using og
      · have hne : ¬ (k.1 = y.1 ∧ k.2 = y.2) := fun z => hq (Prod.ext z.1 z.2)
        have hne' : (k.1 == y.1 && k.2 == y.2) = false := by rw [twoEqL]; simpa using hq
        simp [hne, hne']
        exact fin _ (by simp [t0]) (by simp [t3]) (by simp [t5]) (by rw [hk]; simpa using hq)
    · have hci : ¬ (layN l y : Int) < (l.length : Int) := by omega
      simp [t0, t5, t3, og.len, hc]
      exact fin _ (by simp [t0]) (by simp [t3]) (by simp [t5]) (by rw [List.getElem?_eq_none (by omega)]; simp)
end
end Go.Proofs.Ytochkdifpgelmaa

/-! What trace's Causes tells: the plain part. -/
namespace Go.Proofs.Ytochkdifpgelmaa
open Go.Ab

theorem lt2_iff {a b : Int × Int} : lt2 a b = true ↔ a.1 < b.1 ∨ (a.1 = b.1 ∧ a.2 < b.2) := by simp [lt2]
theorem lt2_irrefl (a : Int × Int) : lt2 a a = false := by
  cases h : lt2 a a with
  | false => rfl
  | true => rw [lt2_iff] at h; omega
theorem lt2_trans {a b c : Int × Int} (h : lt2 a b = true) (k : lt2 b c = true) : lt2 a c = true := by
  rw [lt2_iff] at *; omega
theorem lt2_total {a b : Int × Int} (h : lt2 a b = false) (hne : a ≠ b) : lt2 b a = true := by
  rw [lt2_iff]
  have h' : ¬ (a.1 < b.1 ∨ (a.1 = b.1 ∧ a.2 < b.2)) := fun q => by rw [lt2_iff.2 q] at h; cases h
  by_cases q1 : a.1 = b.1
  · by_cases q2 : a.2 = b.2
    · exact absurd (Prod.ext q1 q2) hne
    · omega
  · omega
def Rise2 (l : List (Int × Int)) : Prop := l.Pairwise fun a b => lt2 a b = true
theorem rise_ext : ∀ {l m : List (Int × Int)}, Rise2 l → Rise2 m → (∀ z, z ∈ l ↔ z ∈ m) → l = m
  | [], [], _, _, _ => rfl
  | [], b :: m, _, _, h => by have := (h b).2 (by simp); simp at this
  | a :: l, [], _, _, h => by have := (h a).1 (by simp); simp at this
  | a :: l, b :: m, hl, hm, h => by
    obtain ⟨l1, l2⟩ := List.pairwise_cons.1 hl
    obtain ⟨m1, m2⟩ := List.pairwise_cons.1 hm
    have hab : a = b := by
      rcases List.mem_cons.1 ((h a).1 (by simp)) with q | q
      · exact q
      · rcases List.mem_cons.1 ((h b).2 (by simp)) with r | r
        · exact r.symm
        · have := lt2_trans (m1 a q) (l1 b r)
          rw [lt2_irrefl] at this; cases this
    subst hab
    rw [rise_ext l2 m2 fun z => ?_]
    constructor
    · intro hz
      rcases List.mem_cons.1 ((h z).1 (by simp [hz])) with q | q
      · subst q; have := l1 z hz; rw [lt2_irrefl] at this; cases this
      · exact q
    · intro hz
      rcases List.mem_cons.1 ((h z).2 (by simp [hz])) with q | q
      · subst q; have := m1 z hz; rw [lt2_irrefl] at this; cases this
      · exact q
theorem layF_ok {l : List (Int × Int)} {y : Int × Int} (h : Rise2 l) : Rise2 (layF l y) ∧ (∀ z, z ∈ layF l y ↔ z = y ∨ z ∈ l) ∧ (layF l y).length ≤ l.length + 1 := by
  unfold layF
  split
  · rename_i hk
    exact ⟨h, fun z => ⟨.inr, fun q => by
      rcases q with q | q
      · rw [q]; exact List.mem_of_getElem? hk
      · exact q⟩, by omega⟩
  · rename_i hk
    have hle := layN_le l y
    have hsplit : l = l.take (layN l y) ++ l.drop (layN l y) := (List.take_append_drop _ _).symm
    have h1 : ∀ a, a ∈ l.take (layN l y) → lt2 a y = true := layN_all
    have h2 : ∀ d, d ∈ l.drop (layN l y) → lt2 y d = true := by
      cases hd : l.drop (layN l y) with
      | nil => intro d hd; simp at hd
      | cons d0 r =>
        have e0 : l[layN l y]? = some d0 := by
          have : (l.drop (layN l y))[0]? = some d0 := by rw [hd]; rfl
          rw [List.getElem?_drop] at this
          simpa using this
        have hp : Rise2 (d0 :: r) := by
          have := (List.pairwise_append.1 (hsplit ▸ h : (l.take (layN l y) ++ l.drop (layN l y)).Pairwise _)).2.1
          rw [hd] at this
          exact this
        have k0 : lt2 d0 y = false := by
          -- the first of those that stay behind
          have : ∀ (l : List (Int × Int)) (d : Int × Int), l[(l.takeWhile fun z => lt2 z y).length]? = some d → lt2 d y = false := by
            intro l
            induction l with
            | nil => intro d h; simp at h
            | cons a l ih =>
              intro d h
              cases ha : lt2 a y with
              | true => simp [List.takeWhile, ha] at h; exact ih d h
              | false => simp [List.takeWhile, ha] at h; rw [← h]; exact ha
          exact this l d0 e0
        have k1 := lt2_total k0 (fun q => hk (by rw [e0, q]))
        intro d hdm
        rcases List.mem_cons.1 hdm with q | q
        · rw [q]; exact k1
        · exact lt2_trans k1 ((List.pairwise_cons.1 hp).1 d q)
    have hpa := List.pairwise_append.1 (hsplit ▸ h : (l.take (layN l y) ++ l.drop (layN l y)).Pairwise _)
    refine ⟨?_, fun z => ?_, by simp; omega⟩
    · unfold Rise2
      rw [List.append_assoc, List.pairwise_append]
      refine ⟨hpa.1, ?_, fun a ha b hb => ?_⟩
      · rw [List.singleton_append, List.pairwise_cons]
        exact ⟨h2, hpa.2.1⟩
      · rw [List.singleton_append] at hb
        rcases List.mem_cons.1 hb with q | q
        · rw [q]; exact h1 a ha
        · exact hpa.2.2 a ha b q
    · constructor
      · intro hz
        simp only [List.mem_append, List.mem_singleton] at hz
        rcases hz with (q | q) | q
        · exact .inr (List.mem_of_mem_take q)
        · exact .inl q
        · exact .inr (List.mem_of_mem_drop q)
      · intro hz
        simp only [List.mem_append, List.mem_singleton]
        rcases hz with q | q
        · exact .inl (.inr q)
        · rw [hsplit] at q
          rcases List.mem_append.1 q with r | r
          · exact .inl (.inl r)
          · exact .inr r

/-- In some steps from x. -/
inductive Rch {α : Type} (R : α → α → Prop) (x : α) : α → Prop
  | one {z : α} : R x z → Rch R x z
  | step {y z : α} : Rch R x y → R y z → Rch R x z
theorem Rch.trans {α : Type} {R : α → α → Prop} {x y z : α} (h : Rch R x y) (k : Rch R y z) : Rch R x z := by
  induction k with
  | one q => exact .step h q
  | step _ q ih => exact .step ih q
/-- z was seen by y's client ahead of sending y. -/
def causeP (l : List Mk) (y z : Int × Int) : Prop := ∃ (i : Nat) (m : Mk), l[i]? = some m ∧ (i : Int) < firstS l y ∧ m.c = y.1 ∧ mid m = z

theorem nodup_sub_len {α : Type} [DecidableEq α] : ∀ {l m : List α}, l.Nodup → (∀ x, x ∈ l → x ∈ m) → l.length ≤ m.length
  | [], m, _, _ => by simp
  | a :: l, m, hn, hs => by
    obtain ⟨h1, h2⟩ := List.nodup_cons.1 hn
    have ha := hs a (by simp)
    have := nodup_sub_len (l := l) (m := m.erase a) h2 fun x hx => by
      have hne : x ≠ a := fun q => h1 (q ▸ hx)
      exact (List.mem_erase_of_ne hne).2 (hs x (by simp [hx]))
    rw [List.length_erase_of_mem ha] at this
    have hpos : 0 < m.length := List.length_pos_of_mem ha
    simp only [List.length_cons]
    omega
/-- All that is reached has come, where nothing is left to do. -/
theorem reach_all {l : List Mk} {x : Int × Int} {ks : List (Int × Int)} {D : Int → Int} (h1 : ∀ (j : Nat) (m : Mk), l[j]? = some m → (j : Int) < D m.c → mid m ∈ ks) (h2 : ∀ z, z = x ∨ z ∈ ks → firstS l z ≤ D z.1) {z : Int × Int} (h : Rch (causeP l) x z) : z ∈ ks := by
  have key : ∀ y z, (y = x ∨ y ∈ ks) → causeP l y z → z ∈ ks := fun y z hy ⟨i, m, k1, k2, k3, k4⟩ => by
    rw [← k4]
    refine h1 i m k1 ?_
    have := h2 y hy
    rw [k3]; omega
  induction h with
  | one q => exact key _ _ (.inl rfl) q
  | step _ q ih => exact key _ _ (.inr ih) q
end Go.Proofs.Ytochkdifpgelmaa
