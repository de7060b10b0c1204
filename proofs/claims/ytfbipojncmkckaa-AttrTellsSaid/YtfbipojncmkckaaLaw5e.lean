/-
  Law AttrTells: raw attributes, or right ones of which one is another one.
-/
import Derived.Test.YtfbipojncmkckaaLaw5d
import Derived.Test.YtfbipojncmkckaaFeedX
import Derived.Test.YtfbipojncmkckaaSprecentorlaw5
set_option linter.unusedVariables false
set_option linter.unusedSimpArgs false
namespace Go.Proofs.Ytfbipojncmkckaa
open Go.Ab

/-- Attributes that were handed in. -/
structure RawA (h : Heap) (v : AVal) (l : List Att) : Prop where
  sl : Sl attrR h v l
  small : ∀ a, a ∈ l → a.1.size < 2 ^ 63
  len : l.length < 2 ^ 63
theorem RawA.ext {S : List Nat} {h h' : Heap} {v : AVal} {l : List Att} (o : RawA h v l) (e : Ext S h h') : RawA h' v l := ⟨o.sl.ext e, o.small, o.len⟩
theorem attr_flat {h h' : Heap} {cs : List AVal} {x : Att} : attrR.rep h cs x → attrR.rep h' cs x := fun q => q
theorem fed_size {v : ByteArray} (h : v ∈ names5) : v.size < 2 ^ 63 := by have := (names_word v h).2; omega

section
variable {X : XTab}

/-- An attribute of one's own is written. -/
theorem pokeA {h0 h : Heap} {v : AVal} {l : List Att} {a : Att} {i bf kf : Nat} (o : Sl attrR h v l) (w : Wr h0 h v) (f : Feed h bf kf) (ha : l[i]? = some a) :
    ∃ b p B, ixsR 6 v (.int .i64 (i : Int)) = some (.ptr b p) ∧ h.get b = some B ∧ B[p + 1 + 4]? = some (.bool a.2.b) ∧
      ∀ (k : Nat) (x : AVal) (a' : Att), k < 6 → x.cells = [x] → x.one = true → (attC a).set k x = attC a' → ∃ h', stR 1 h (.ptr b (p + k)) x = .val aUndef h' ∧ Sl attrR h' v (l.set i a') ∧ Feed h' bf kf ∧ ∀ S hh, Ext S hh h → hh.next ≤ h0.next → Ext S hh h' := by
  obtain ⟨b, p, B, c, q1, q2, _, q3, q4, q5, q6⟩ := pokeC (r := attrR) (n := 6) rfl attr_flat o (fun b hb => (w b hb).2.1) ha
  have q5 : c = attC a := q5
  subst q5
  have hc := q4.cell (k := 5) (by simp [attC, vlC])
  obtain ⟨w1, w2, w3⟩ := w b (by rw [q1]; simp)
  refine ⟨b, p, B, q3, q4.get, by simpa [attC, vlC] using hc, fun k x a' hk hx h1 ha' => ?_⟩
  obtain ⟨h', z1, z2, z3, _⟩ := q6 k x a' hk hx h1 ha'
  exact ⟨h', z1, z3, f.extCX z2 q2 w2, fun S hh e hl => e.extC z2 (by omega)⟩

theorem attrs5 (hX : OnlyKnown X) {h : Heap} {bf kf : Nat} {v : AVal} {nm : ByteArray} {l : List Att} (f : Feed h bf kf) (hk : kf < 2 ^ 59) (o : RawA h v l) (hn : nm.size < 2 ^ 63) :
    Tells (fun q => acallX Try.prog X q F_precentorlaw5_attrs [v, .ptr bf 0, .str nm] h) fun r h' => ∃ m, Sl attrR h' r m ∧ m.length ≤ 8 ∧ (∀ a, a ∈ m → a.1.size < 2 ^ 63) ∧ Ext [bf] h h' ∧ Feed h' bf (kf + 20) := by
  refine R_precentorlaw5_attrs _ _ _ (hX _ _ rfl) ?_
  refine Tells.prot fun Q' hQ => ?_
  have u4 := Try.underlying4
  unfold S_precentorlaw5_attrs
  try simp
  refine Tells.bind (Next hX 3 ⟨by omega, by omega⟩ f (by omega)) ?_
  rintro _ h1 ⟨c, rfl, c0, c1, _, x1, f1⟩
  by_cases hc : c = 0
  · subst hc
    have hl := o.len
    have o1 := o.ext x1
    obtain ⟨v2, e2, s2, bl2⟩ := o1.sl.takeR (n := 6) rfl (hi := min l.length 8) (Nat.min_le_left _ _)
    have hm : (if (8 : Int) < (l.length : Int) then (8 : Int) else (l.length : Int)) = ((min l.length 8 : Nat) : Int) := by split <;> omega
    simp [o1.sl.len, hm, e2]
    exact Tells.ok (hQ _ _ ⟨_, s2, by simp; omega, fun a ha => o.small a (List.mem_of_mem_take ha), x1, f1.mono (by omega)⟩)
  have bc : (c == 0) = false := beq_eq_false_iff_ne.2 hc
  simp [bc, J_precentorlaw5_attrs_0]
  refine Tells.bind (AttrsW hX f1 (by omega)) ?_
  rintro r h2 ⟨ats, ga, wa, hl, hs, hv, x2, f2⟩
  have small : ∀ a, a ∈ ats → a.1.size < 2 ^ 63 := fun a ha => fed_size (hs.subset (List.mem_map_of_mem ha))
  have x12 : Ext [bf] h h2 := x1.then x2 (by simp)
  by_cases hz : ats.length = 0
  · simp [ga.1.len, hz, J_precentorlaw5_attrs_1]
    exact Tells.ok (hQ _ _ ⟨ats, ga.1, by omega, small, x12, f2.mono (by omega)⟩)
  have hz' : 0 < ats.length := by omega
  simp [ga.1.len, hz']
  refine Tells.bind (Next hX 3 ⟨by omega, by omega⟩ f2 (by omega)) ?_
  rintro _ h3 ⟨c3, rfl, c30, c31, _, x3, f3⟩
  have ga3 : Gl attrR h1 h3 r ats := ga.extO x3 (by simp [f2.m])
  have wa3 := wa.ext x3
  have x13 : Ext [bf] h h3 := x12.then x3 (by simp)
  by_cases hc3 : c3 = 0
  case neg =>
    have bc3 : (c3 == 0) = false := beq_eq_false_iff_ne.2 hc3
    simp [bc3, J_precentorlaw5_attrs_1]
    exact Tells.ok (hQ _ _ ⟨ats, ga3.1, by omega, small, x13, f3.mono (by omega)⟩)
  subst hc3
  simp [ga3.1.len]
  refine Tells.bind (Next hX ats.length ⟨by omega, by omega⟩ f3 (by omega)) ?_
  rintro _ h4 ⟨k, rfl, k0, k1, _, x4, f4⟩
  have k1 := k1 (by omega)
  try simp
  refine Tells.bind (Next hX 4 ⟨by omega, by omega⟩ f4 (by omega)) ?_
  rintro _ h5 ⟨c5, rfl, c50, c51, _, x5, f5⟩
  have ga5 : Gl attrR h1 h5 r ats := (ga3.extO x4 (by simp [f3.m])).extO x5 (by simp [f4.m])
  have wa5 := (wa3.ext x4).ext x5
  have x15 : Ext [bf] h h5 := (x13.then x4 (by simp)).then x5 (by simp)
  obtain ⟨kn, rfl⟩ : ∃ n : Nat, k = n := ⟨k.toNat, by omega⟩
  have hkn : kn < ats.length := by omega
  obtain ⟨a, ha⟩ : ∃ a, ats[kn]? = some a := ⟨_, List.getElem?_eq_getElem hkn⟩
  have hm := List.mem_of_getElem? ha
  have setS : ∀ a' : Att, a'.1.size < 2 ^ 63 → ∀ y, y ∈ ats.set kn a' → y.1.size < 2 ^ 63 := fun a' h' y hy => by
    rcases List.mem_or_eq_of_mem_set hy with q | q
    · exact small y q
    · rw [q]; exact h'
  obtain ⟨b, p, B, i1, i2, i3, i4⟩ := pokeA ga5.1 wa5 f5 ha
  by_cases e0 : c5 = 0
  · subst e0
    obtain ⟨h6, s1, s2, f6, s3⟩ := i4 0 (.str nm) (nm, a.2) (by omega) rfl rfl rfl
    have s1 : stR 1 h5 (.ptr b p) (.str nm) = .val aUndef h6 := s1
    simp [i1, s1, J_precentorlaw5_attrs_1]
    exact Tells.ok (hQ _ _ ⟨_, s2, by simp; omega, setS _ hn, s3 _ _ x15 x1.next, f6.mono (by omega)⟩)
  have be0 : (c5 == 0) = false := beq_eq_false_iff_ne.2 e0
  by_cases e1 : c5 = 1
  · subst e1
    obtain ⟨h6, s1, s2, f6, s3⟩ := i4 5 (.bool (!a.2.b)) (a.1, { a.2 with b := !a.2.b }) (by omega) rfl rfl rfl
    have s1 : stR 1 h5 (.ptr b (p + 1 + 4)) (.bool (!a.2.b)) = .val aUndef h6 := s1
    simp [i1, i2, i3, s1, J_precentorlaw5_attrs_1]
    exact Tells.ok (hQ _ _ ⟨_, s2, by simp; omega, setS _ (small a hm), s3 _ _ x15 x1.next, f6.mono (by omega)⟩)
  have be1 : (c5 == 1) = false := beq_eq_false_iff_ne.2 e1
  by_cases e2 : c5 = 2
  · subst e2
    obtain ⟨b2, p2, B2, q1, q2, q3, q4, q5, q6, q7⟩ := att_at ga5.1 ha
    simp [q1, q2, q3, q4]
    refine Tells.app1 (ga5.back x1.next) (by rfl) (by rfl) (show attrR.rep h5 (attC a) a from rfl) (by rfl) (by rfl) (by omega) (by decide) x15.next fun s6 h6 g6 x6 y6 z6 => ?_
    simp [J_precentorlaw5_attrs_1]
    refine Tells.ok (hQ _ _ ⟨_, g6.1, by simp; omega, fun y hy => ?_, y6 _ x15, (f5.ext x6 (fun q => ?_)).mono (by omega)⟩)
    · rcases List.mem_append.1 hy with q | q
      · exact small y q
      · simp at q; rw [q]; exact small a hm
    · have := (ga5.1.blk _ q).1; rw [f5.m] at this; cases this
  have be2 : (c5 == 2) = false := beq_eq_false_iff_ne.2 e2
  simp [be0, be1, be2]
  refine Tells.bind (Next hX 6 ⟨by omega, by omega⟩ f5 (by omega)) ?_
  rintro _ h6 ⟨c6, rfl, c60, c61, _, x6, f6⟩
  have ga6 : Gl attrR h1 h6 r ats := ga5.extO x6 (by simp [f5.m])
  have x16 : Ext [bf] h h6 := x15.then x6 (by simp)
  obtain ⟨b, p, B, i1, i2, i3, i4⟩ := pokeA ga6.1 (wa5.ext x6) f6 ha
  obtain ⟨h7, s1, s2, f7, s3⟩ := i4 1 (I c6) (a.1, { a.2 with k := c6 }) (by omega) rfl rfl rfl
  simp [i1, s1, J_precentorlaw5_attrs_1]
  exact Tells.ok (hQ _ _ ⟨_, s2, by simp; omega, setS _ (small a hm), s3 _ _ x16 x1.next, f7.mono (by omega)⟩)
end
end Go.Proofs.Ytfbipojncmkckaa
