/-
  What the functions of seq tell, of a chain of two atoms.
-/
import Derived.Test.YtbnnkfbjnpmamaaB3
import Derived.Test.YtbnnkfbjnpmamaaSseq
set_option linter.unusedVariables false
set_option linter.unusedSimpArgs false
namespace Go.Proofs.Ytbnnkfbjnpmamaa
open Go.Ab

/-- A stamp: place and number. -/
def stR2 : Rp (Int × Int) := ⟨2, by decide, fun _ cs x => cs = [I x.1, I x.2], fun h => by rw [h]; rfl, fun h => by rw [h]; rfl, fun h _ => h⟩
/-- An atom. -/
def atR : Rp (Int × Int × Int) := ⟨3, by decide, fun _ cs x => cs = [I x.1, I x.2.1, I x.2.2], fun h => by rw [h]; rfl, fun h => by rw [h]; rfl, fun h _ => h⟩

/-- A Seq of two atoms, both its own. -/
structure SeqO (h : Heap) (bs bm bn : Nat) (c0 c1 : Int) : Prop where
  s : Ob h bs [.sl bm 0 2 2 1 true, .sl bn 0 2 2 1 true]
  m : Ob h bm [.bool true, .bool true]
  n : Ob h bn [I c0, I c1]
  sm : bs ≠ bm
  sn : bs ≠ bn
  mn : bm ≠ bn
theorem SeqO.ext {S : List Nat} {h h' : Heap} {bs bm bn : Nat} {c0 c1 : Int} (o : SeqO h bs bm bn c0 c1) (x : Ext S h h') (h1 : bs ∉ S) (h2 : bm ∉ S) (h3 : bn ∉ S) : SeqO h' bs bm bn c0 c1 := ⟨o.s.ext x h1, o.m.ext x h2, o.n.ext x h3, o.sm, o.sn, o.mn⟩
theorem SeqO.e {h h' : Heap} {bs bm bn : Nat} {c0 c1 : Int} (o : SeqO h bs bm bn c0 c1) (x : Ext [] h h') : SeqO h' bs bm bn c0 c1 := o.ext x (by simp) (by simp) (by simp)

section
variable {X : XTab}

theorem seq_own (hX : OnlyKnown X) {h : Heap} {bs bm bn : Nat} {c0 c1 : Int} (o : SeqO h bs bm bn c0 c1) {p : Int} (hp : p = 0 ∨ p = 1 ∨ p = 2) :
    Tells (fun q => acallX Try.prog X q F_seq_Seq_own [.ptr bs 0, I p] h) fun a h' => a = .bool (decide (p < 2)) ∧ h' = h := by
  refine R_seq_Seq_own _ _ (hX _ _ rfl) ?_
  refine Tells.prot fun Q' hQ => ?_
  unfold S_seq_Seq_own
  rcases hp with rfl | rfl | rfl <;>
  · simp [nckR, o.s.1, o.m.1, ixsR]
    exact Tells.ok (hQ _ _ ⟨rfl, rfl⟩)

theorem seq_Count (hX : OnlyKnown X) {h : Heap} {bs bm bn : Nat} {c0 c1 : Int} (o : SeqO h bs bm bn c0 c1) :
    Tells (fun q => acallX Try.prog X q F_seq_Seq_Count [.ptr bs 0, I 0] h) fun a h' => a = I c0 ∧ h' = h := by
  refine R_seq_Seq_Count _ _ (hX _ _ rfl) ?_
  refine Tells.prot fun Q' hQ => ?_
  unfold S_seq_Seq_Count
  simp
  refine Tells.bind (seq_own hX o (p := 0) (by omega)) ?_
  rintro _ h ⟨rfl, rfl⟩
  simp [J_seq_Seq_Count_0, nckR, o.s.1, o.n.1, ixsR]
  exact Tells.ok (hQ _ _ ⟨rfl, rfl⟩)

theorem seq_has (hX : OnlyKnown X) {h : Heap} {v : AVal} (o : Sl intR h v [0, 1]) {a : Int} (ha : a = 0 ∨ a = 1) :
    Tells (fun q => acallX Try.prog X q F_seq_has [v, I a] h) fun r h' => r = .bool true ∧ h' = h := by
  refine R_seq_has _ _ (hX _ _ rfl) ?_
  refine Tells.prot fun Q' hQ => ?_
  unfold S_seq_has
  have hlen := o.len
  simp [hlen]
  refine Tells.bind (Tells.loop (fun n t g => ∃ i : Nat, t 1 = I a ∧ t 7 = v ∧ t 8 = I 2 ∧ t 9 = I i ∧ i + n = 2 ∧ (i : Int) ≤ a ∧ g = h)
    (Q := fun p g => g = h ∧ p.1 = .ret ∧ p.2 4 = .bool true) ?_ 2 _ _ ?_) ?_
  · rintro n t g ⟨i, t1, t7, t8, t9, hi, hia, rfl⟩
    refine Tells.prot fun Q2 hQ2 => ?_
    have hc : i < 2 := by omega
    obtain ⟨x, hdi, hx⟩ : ∃ x : Int, ([0, 1] : List Int)[i]? = some x ∧ x = i := by
      have : i = 0 ∨ i = 1 := by omega
      rcases this with rfl | rfl <;> exact ⟨_, rfl, rfl⟩
    obtain ⟨b, pp, B, q1, q2, q3⟩ := o.atI hdi
    have w : IntKind.i64.wrap ((i : Int) + 1) = i + 1 := wrap_id (by omega) (by omega)
    have hc' : (i : Int) < 2 := by omega
    unfold L_seq_has_1
    by_cases e : x = a
    · subst e
      simp [t8, t9, hc', J_seq_has_2, t7, t1, q1, q2, q3]
      exact Tells.ok (hQ2 _ _ (.inr ⟨by simp, rfl, rfl, by simp⟩))
    · simp [t8, t9, hc', J_seq_has_2, t7, t1, q1, q2, q3, beq_eq_false_iff_ne.2 e, J_seq_has_3, w]
      exact Tells.ok (hQ2 _ _ (.inl ⟨rfl, n - 1, by omega, i + 1, by simp [t1], by simp [t7], by simp [t8], by simp, by omega, by omega, rfl⟩))
  · exact ⟨0, by simp, by simp, by simp, by simp, by omega, by omega, rfl⟩
  · rintro ⟨ex, t⟩ g ⟨rfl, rfl, q⟩
    simp only at q
    simp [q]
    exact Tells.ok (hQ _ _ ⟨rfl, rfl⟩)

theorem mak {β : Type} {Q : β → Heap → Prop} {h : Heap} {n by_ k : Nat} {z cs : List AVal} {f : Nat → AVal → Heap → Res β} (hz : z.length = n) (hk : k ≤ 2 ^ 30) (hb : by_ ≤ 2 ^ 12) (hc : zeros z k = cs)
    (q : ∀ h1 b, b = h.next → Ob h1 b cs → Ext [] h h1 → Tells (fun m => f m (.sl b 0 k k n true) h1) Q) : Tells (fun m => arbV (makR n by_ z h (I k) (I k)) (f m)) Q := by
  have : (k : Int) * by_ ≤ 2 ^ 46 := by
    have : k * by_ ≤ 2 ^ 30 * 2 ^ 12 := Nat.mul_le_mul hk hb
    have e : ((k * by_ : Nat) : Int) = (k : Int) * by_ := by simp
    omega
  unfold makR
  simp only
  rw [if_pos ⟨by omega, by omega, by omega, this, hz⟩]
  simp only [Int.toNat_natCast, arbV_val]
  rw [hc]
  exact q _ _ rfl (Ob.new h cs) (Ext.new h true cs)

theorem seq_New2 (hX : OnlyKnown X) {h : Heap} {v : AVal} (o : Sl atR h v [(0, 0, 0), (0, 1, 0)]) :
    Tells (fun q => acallX Try.prog X q F_seq_New [v, I 0] h) fun a h' => ∃ bs bm bn, a = .ptr bs 0 ∧ SeqO h' bs bm bn 0 0 ∧ Ext [] h h' ∧ h.next ≤ bs ∧ h.next ≤ bm ∧ h.next ≤ bn := by
  refine R_seq_New _ _ (hX _ _ rfl) ?_
  refine Tells.prot fun Q' hQ => ?_
  unfold S_seq_New
  have hlen : lenL v = some (I ((2 : Nat) : Int)) := by simpa using o.len
  simp [hlen]
  refine mak (k := 2) (cs := [.bool false, .bool false]) (by rfl) (by omega) (by omega) (by rfl) fun h1 bm e1 m1 x1 => ?_
  try simp
  refine mak (k := 2) (cs := [I 0, I 0]) (by rfl) (by omega) (by omega) (by rfl) fun h2 bn e2 n2 x2 => ?_
  simp [bldR, fillR, splice]
  refine Tells.boxV rfl rfl fun h3 bs s3 x3 l3 => ?_
  have k1 := x1.next
  have k2 := x2.next
  have k3 := x3.next
  have l1 := m1.lt
  have l2 := n2.lt
  have l4 := s3.lt
  have m3 := (m1.e x2).e x3
  have n3 := n2.e x3
  have x13 := (x1.trans x2).trans x3
  have sm : bs ≠ bm := by omega
  have sn : bs ≠ bn := by omega
  have mn : bm ≠ bn := by omega
  try simp [hlen]
  refine Tells.bind (Tells.loop (fun n t g => ∃ i : Nat, t 1 = I 0 ∧ t 5 = .ptr bs 0 ∧ t 16 = v ∧ t 17 = I 2 ∧ t 18 = I i ∧ i + n = 2 ∧ Ob g bs [.sl bm 0 2 2 1 true, .sl bn 0 2 2 1 true] ∧ Ob g bm [.bool (decide (0 < i)), .bool (decide (1 < i))] ∧ Ob g bn [I 0, I 0] ∧ Ext [] h g)
    (Q := fun p g => p.1 = .exit 0 ∧ p.2 5 = .ptr bs 0 ∧ SeqO g bs bm bn 0 0 ∧ Ext [] h g) ?_ 2 _ _ ?_) ?_
  · rintro n t g ⟨i, t1, t5, t16, t17, t18, hi, os, om, on, x⟩
    refine Tells.prot fun Q2 hQ2 => ?_
    unfold L_seq_New_1
    have : i = 0 ∨ i = 1 ∨ i = 2 := by omega
    have step : ∀ (i : Nat) (y : Int × Int × Int), i < 2 → y.2.2 = 0 → ([(0, 0, 0), (0, 1, 0)] : List (Int × Int × Int))[i]? = some y → t 18 = I i → i + n = 2 → Ob g bm [.bool (decide (0 < i)), .bool (decide (1 < i))] →
        Tells (fun m => J_seq_New_2 Try.prog (acallX Try.prog X m) m okK (upd t 19 (.bool true)) g) Q2 := by
      intro i y hi2 hy hdi t18 hi om
      obtain ⟨b, p, B, c, q1, q2, q3⟩ := (o.ext x).at (n := 3) rfl (i := (i : Int)) (by omega) (by simpa using hdi)
      have q3 : c = [I y.1, I y.2.1, I y.2.2] := q3
      subst q3
      have q4 := q2.lda (n := 3) rfl
      simp only [ldn_ptr, q2.get] at q4
      have wi : IntKind.i64.wrap ((i : Int) + 1) = i + 1 := wrap_id (by omega) (by omega)
      simp [J_seq_New_2, t16, t18, q1, q2.get, q4]
      refine Tells.new fun h4 bx o4 x4 l4 => ?_
      try simp
      refine Tells.stN o4 (by rfl) (by rfl) (by rfl) (by rfl) fun h5 o5 x5 => ?_
      have k4 := x.next
      have x05 : Ext [] h h5 := (x.trans x4).then x5 (by simp; omega)
      have hx1 := os.lt
      have hx2 := om.lt
      have hx3 := on.lt
      have os5 := (os.e x4).ext x5 (by simp; omega)
      have om5 := (om.e x4).ext x5 (by simp; omega)
      have on5 := (on.e x4).ext x5 (by simp; omega)
      have hix : ixsR 1 (.sl bm 0 2 2 1 true) (.int .i64 (i : Int)) = some (.ptr bm i) := by
        simp only [ixsR]
        rw [if_pos ⟨by omega, by omega⟩]
        simp
      simp [t5, t1, nckR, os5.1, o5.1, hy, hix]
      refine Tells.st1E om5 (by rfl) (by rfl) (by simp; omega) fun h6 o6 x6 => ?_
      simp [J_seq_New_3, t18, wi]
      refine Tells.ok (hQ2 _ _ (.inl ⟨rfl, n - 1, by omega, i + 1, by simp [t1], by simp [t5], by simp [t16], by simp [t17], by simp, by omega, os5.ext x6 (by simpa using sm), ?_, on5.ext x6 (by simpa using Ne.symm mn), x05.then x6 (by simp; omega)⟩))
      have : i = 0 ∨ i = 1 := by omega
      rcases this with rfl | rfl
      · simpa [splice] using o6
      · simpa [splice] using o6
    rcases this with rfl | rfl | rfl
    · simp [t18, t17]
      exact step 0 (0, 0, 0) (by omega) rfl rfl t18 hi om
    · simp [t18, t17]
      exact step 1 (0, 1, 0) (by omega) rfl rfl t18 hi om
    · simp [t18, t17]
      exact Tells.ok (hQ2 _ _ (.inr ⟨by simp, rfl, by simp [t5], ⟨os, by simpa using om, on, sm, sn, mn⟩, x⟩))
  · exact ⟨0, by simp, by simp, by simp, by simp, by simp, by omega, s3, by simpa using m3, n3, x13⟩
  · rintro ⟨ex, t⟩ g ⟨rfl, t5, so, x⟩
    simp only at t5
    simp [J_seq_New_0, t5]
    exact Tells.ok (hQ _ _ ⟨bs, bm, bn, rfl, so, x, by omega, by omega, by omega⟩)

end
end Go.Proofs.Ytbnnkfbjnpmamaa
