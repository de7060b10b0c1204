/-
  Law DeskPolls: the walk.
-/
import Derived.Test.YtnbmmebhammlkaaDesk1
import Derived.Test.YtnbmmebhammlkaaRow0
import Derived.Test.YtnbmmebhammlkaaSprecentorlaw22
set_option linter.unusedVariables false
set_option linter.unusedSimpArgs false
namespace Go.Proofs.Ytnbmmebhammlkaa
open Go.Ab

theorem RawInts.feed' {h : Heap} {v : AVal} {xs : List Int} {bf : Nat} (o : RawInts h v xs) (ob : Ob h bf [v, I 0]) : Feed h bf 0 := ⟨v, 0, xs, ob, by omega, by omega, o.sl, o.small, o.old⟩
theorem Feed.out' {h : Heap} {bf k : Nat} {α : Type} {r : Rp α} {v : AVal} {xs : List α} (f : Feed h bf k) (o : Sl r h v xs) : bf ∉ v.blks := by
  obtain ⟨L, a, ys, h1, _⟩ := f
  exact o.ob h1
def dk (vl : AVal) (rd : Int) : List Seat := [seat0, seat0, { seat0 with here := true, vlog := vl, read := rd }, { seat0 with here := true }, seat0, seat0, seat0]
structure DInv (i hd pl : Nat) (h0 g : Heap) (bf b : Nat) : Prop where
  fd : Feed g bf (16 * i)
  nx : h0.next ≤ g.next
  ne : bf ≠ b
  le : pl ≤ hd
  li : hd ≤ i
  dk : ∃ vl xs, Ob g b (deskC 0 (dk vl pl)) ∧ Gl snR h0 g vl xs ∧ xs.length = hd ∧ ∀ (k : Nat) x, xs[k]? = some x → x.s = k + 1 ∧ x.ats.length ≤ 5

section
variable {X : XTab}
theorem pollStep (hX : OnlyKnown X) {Q2 : Ex × T → Heap → Prop} {i hd pl : Nat} (hi : i < 40) {t : T} {h0 g : Heap} {bf b : Nat} (t3 : t 3 = .ptr bf 0) (t4 : t 4 = .ptr b 0) (t5 : t 5 = I hd) (t6 : t 6 = I pl) (t7 : t 7 = I i) (o : DInv i hd pl h0 g bf b)
    (hQ2 : ∀ t' g' (hd' pl' : Nat), t' 3 = .ptr bf 0 → t' 4 = .ptr b 0 → t' 5 = I hd' → t' 6 = I pl' → t' 7 = I ((i : Int) + 1) → DInv (i + 1) hd' pl' h0 g' bf b → Q2 (.normal, t') g') :
    Tells (fun m => J_precentorlaw22_DeskPolls_7 Try.prog (acallX Try.prog X m) m okK t g) Q2 := by
  obtain ⟨fd, nx, ne, le, li, vl, xs, ob, lo, hxl, hxs⟩ := o
  have w : IntKind.i64.wrap ((i : Int) + 1) = i + 1 := wrap_id (by omega) (by omega)
  have w5 : IntKind.i64.wrap ((hd : Int) + 1) = hd + 1 := wrap_id (by omega) (by omega)
  have w6 : IntKind.i64.wrap ((pl : Int) + 1) = pl + 1 := wrap_id (by omega) (by omega)
  have hat : ∀ x, x ∈ xs → x.ats.length ≤ 100 := fun x hx => by
    obtain ⟨k, hk⟩ := List.mem_iff_getElem?.1 hx
    have := (hxs k x hk).2
    omega
  unfold J_precentorlaw22_DeskPolls_7
  simp [t3]
  refine Tells.bind (Next hX 2 ⟨by decide, by decide⟩ fd (by omega)) ?_
  rintro _ g1 ⟨r, rfl, r0, _, _, x1, f1⟩
  have ob1 := ob.ext x1 (by simpa using ne.symm)
  have lo1 := lo.extO x1 (by simpa using .inl fd.m)
  have nx1 := Nat.le_trans nx x1.next
  by_cases hr : r = 0
  · simp [hr, t5, t4, t3, w5]
    refine Tells.bind (AttrsH hX f1 (by omega)) ?_
    rintro va g2 ⟨ats, ga, hla, _, _, x2, f2⟩
    have ob2 := ob1.ext x2 (by simpa using ne.symm)
    have lo2 := lo1.extO x2 (by simpa using .inl f1.m)
    have nx2 := Nat.le_trans nx1 x2.next
    simp [bldR, fillR, splice, ga.1.known, ga.1.cells]
    refine Tells.bind (desk_Hear hX ob2 rfl (c := 2) (by decide) rfl rfl lo2 nx2 (by omega) (x := ⟨1, (hd : Int) + 1, 0, ats⟩) (va := va) ga.1 (by show ats.length ≤ 100; omega)) ?_
    rintro _ g3 ⟨rfl, e3, -, vl', ob3, lo3⟩
    have f3 := f2.ext e3 (by simpa using ⟨ne, f2.out' lo2.1⟩)
    have ob3 : Ob g3 b (deskC 0 (dk vl' pl)) := ob3
    simp [J_precentorlaw22_DeskPolls_11, J_precentorlaw22_DeskPolls_8, t7, w]
    refine Tells.ok (hQ2 _ _ (hd + 1) pl (by simp [t3]) (by simp [t4]) (by simp) (by simp [t6]) (by simp) ⟨f3.mono (by omega), Nat.le_trans nx2 e3.next, ne, by omega, by omega, vl', _, ob3, lo3, by simp [hxl], fun k x hk => ?_⟩)
    by_cases hkl : k < xs.length
    · rw [List.getElem?_append_left hkl] at hk
      exact hxs k x hk
    · rw [List.getElem?_append_right (by omega)] at hk
      have h0 : k - xs.length = 0 := by have := (List.getElem?_eq_some_iff.1 hk).1; simp at this; omega
      rw [h0] at hk
      simp at hk
      subst hk
      exact ⟨by simp; omega, hla⟩
  · have hr' : (r == 0) = false := beq_eq_false_iff_ne.2 hr
    simp [hr', J_precentorlaw22_DeskPolls_9, t4]
    refine Tells.bind (desk_Poll hX ob1 rfl (c := 2) (by decide) rfl rfl lo1.1 (by omega) hat (rd := pl) rfl) ?_
    rintro _ g2 ⟨x2, ⟨hn, rfl, ob2⟩ | ⟨x, va, hx, rfl, oa, ob2⟩⟩
    · have f2 := f1.ext x2 (by simpa using ne)
      have lo2 := lo1.extO x2 (by simpa using .inl ob1.2.1)
      have hpl : hd ≤ pl := by rw [List.getElem?_eq_none_iff] at hn; omega
      simp [extR]
      refine Tells.newSt (ds := snC sn0 .nils) (by rfl) (by rfl) (by rfl) (by rfl) fun g3 bx ox x3 l3 => ?_
      simp [t5, t6, show ¬ (pl : Int) < hd by omega, show ¬ pl < hd by omega, Try.underlying4, J_precentorlaw22_DeskPolls_10, J_precentorlaw22_DeskPolls_8, t7, w]
      exact Tells.ok (hQ2 _ _ hd pl (by simp [t3]) (by simp [t4]) (by simp [t5]) (by simp [t6]) (by simp) ⟨(f2.e x3).mono (by omega), Nat.le_trans nx1 (Nat.le_trans x2.next x3.next), ne, by omega, by omega, vl, xs, ob2.e x3, lo2.e x3, hxl, hxs⟩)
    · have f2 := f1.ext x2 (by simpa using ne)
      have lo2 := lo1.extO x2 (by simpa using .inl ob1.2.1)
      have hpl : pl < hd := by have := (List.getElem?_eq_some_iff.1 hx).1; omega
      have hs := (hxs pl x hx).1
      have ob2 : Ob g2 b (deskC 0 (dk vl ((pl : Int) + 1))) := ob2
      simp [extR]
      refine Tells.newSt (ds := snC x va) (by rfl) (by rfl) (by rfl) (by simp [snC, oa.one]) fun g3 bx ox x3 l3 => ?_
      have ox' := ox.1
      simp only [snC] at ox'
      simp [t5, t6, show (pl : Int) < hd by omega, hpl, Try.underlying4, J_precentorlaw22_DeskPolls_10, ox', hs, w6, J_precentorlaw22_DeskPolls_8, t7, w]
      exact Tells.ok (hQ2 _ _ hd (pl + 1) (by simp [t3]) (by simp [t4]) (by simp [t5]) (by simp) (by simp) ⟨(f2.e x3).mono (by omega), Nat.le_trans nx1 (Nat.le_trans x2.next x3.next), ne, by omega, by omega, vl, xs, ob2.e x3, lo2.e x3, hxl, hxs⟩)
theorem polls (hX : OnlyKnown X) (hk : X F_precentorlaw22_known [] = some (.bool true)) {h : Heap} {v1 : AVal} {xs1 : List Int} (r1 : RawInts h v1 xs1) :
    Tells (fun m => acallX Try.prog X m F_precentorlaw22_DeskPolls [v1] h) fun a _ => a = .bool true := by
  refine R_precentorlaw22_DeskPolls _ (hX _ _ rfl) ?_
  refine Tells.prot fun Q' hQ => ?_
  unfold S_precentorlaw22_DeskPolls
  simp [bldR, fillR, splice, r1.sl.known, r1.sl.cells]
  refine Tells.box rfl rfl fun h1 bf of x1 l1 => ?_
  have f1 : Feed h1 bf 0 := RawInts.feed' (r1.ext x1) of
  try simp
  refine Tells.bind (desk_New hX 0 h1) ?_
  rintro _ h2 ⟨b, rfl, ob, x2, l2⟩
  have ne : bf ≠ b := by have := f1.lt; omega
  try simp
  refine Tells.bind (known_X hk h2) ?_
  rintro _ h2 ⟨rfl, rfl⟩
  have pn := fun y z => ptr_nil (t := 26) Try.underlying26 y z b 0
  simp [pn]
  refine Tells.bind (desk_Attach hX ob rfl (c := 2) (by decide) rfl rfl) ?_
  rintro _ h3 ⟨rfl, ob3, x3⟩
  try simp
  refine Tells.bind (desk_Attach hX ob3 rfl (c := 3) (by decide) rfl rfl) ?_
  rintro _ h4 ⟨rfl, ob4, x4⟩
  have ob4 : Ob h4 b (deskC 0 (dk .nils 0)) := ob4
  have f4 := ((f1.e x2).ext x3 (by simpa using ne)).ext x4 (by simpa using ne)
  simp [J_precentorlaw22_DeskPolls_0]
  refine Tells.bind (Tells.loop (fun n t g => ∃ i hd pl : Nat, t 3 = .ptr bf 0 ∧ t 4 = .ptr b 0 ∧ t 5 = I hd ∧ t 6 = I pl ∧ t 7 = I i ∧ i + n = 40 ∧ DInv i hd pl h4 g bf b)
    (Q := fun p g => p.1 = .exit 0 ∧ p.2 4 = .ptr b 0 ∧ ∃ hd pl : Nat, p.2 5 = I hd ∧ DInv 40 hd pl h4 g bf b) ?_ 40 _ _ ?_) ?_
  · rintro n t g ⟨i, hd, pl, t3, t4, t5, t6, t7, hi, o⟩
    refine Tells.prot fun Q2 hQ2 => ?_
    unfold L_precentorlaw22_DeskPolls_6
    by_cases hc : i < 40
    · simp [t7, show (i : Int) < 40 by omega]
      exact pollStep hX hc (by simp [t3]) (by simp [t4]) (by simp [t5]) (by simp [t6]) (by simp [t7]) o fun t' g' hd' pl' k3 k4 k5 k6 k7 o' => hQ2 _ _ (.inl ⟨rfl, n - 1, by omega, i + 1, hd', pl', k3, k4, k5, k6, by simpa using k7, by omega, o'⟩)
    · have : i = 40 := by omega
      subst this
      simp [t7]
      exact Tells.ok (hQ2 _ _ (.inr ⟨by simp, rfl, by simp [t4], hd, pl, by simp [t5], o⟩))
  · exact ⟨0, 0, 0, by simp, by simp, by simp, by simp, by simp, rfl, f4.mono (by omega), Nat.le_refl _, ne, by omega, by omega, .nils, [], ob4, Gl.nil, rfl, by simp⟩
  · rintro ⟨ex, t⟩ g ⟨rfl, t4, hd, pl, t5, fd, nx, _, le, li, vl, xs, ob, lo, hxl, hxs⟩
    simp only at t4 t5
    have hat : ∀ x, x ∈ xs → x.ats.length ≤ 100 := fun x hx => by
      obtain ⟨k, hk⟩ := List.mem_iff_getElem?.1 hx
      have := (hxs k x hk).2
      omega
    simp [J_precentorlaw22_DeskPolls_1, t4]
    refine Tells.bind (desk_Log hX ob rfl (c := 2) (by decide) rfl rfl lo.1 (by omega) hat) ?_
    rintro vv g1 ⟨y1, ol⟩
    have ob1 := ob.e y1
    try simp
    refine Tells.bind (Tells.loop (fun n t' g' => ∃ i : Nat, t' 4 = .ptr b 0 ∧ t' 5 = I hd ∧ t' 10 = vv ∧ t' 11 = I i ∧ i + n = xs.length ∧ g' = g1)
      (Q := fun p g' => p.1 = .exit 2 ∧ p.2 4 = .ptr b 0 ∧ p.2 5 = I hd ∧ p.2 10 = vv ∧ g' = g1) ?_ xs.length _ _ ?_) ?_
    · rintro n t' g' ⟨i, k4, k5, k10, k11, hi, rfl⟩
      refine Tells.prot fun Q2 hQ2 => ?_
      unfold L_precentorlaw22_DeskPolls_3
      simp [k10, k11, ol.len]
      refine Tells.cb (fun hc => ?_) (fun hc => ?_)
      · simp at hc
        obtain ⟨x, hx⟩ : ∃ x, xs[i]? = some x := ⟨_, List.getElem?_eq_getElem hc⟩
        obtain ⟨bb, p, B, va, q1, q2, q3, q4, oa, q5⟩ := sn_at ol hx
        have hs := (hxs i x hx).1
        have w : IntKind.i64.wrap ((i : Int) + 1) = i + 1 := wrap_id (by omega) (by omega)
        simp [J_precentorlaw22_DeskPolls_4, k10, k11, q1, q2, q5, hs, w, J_precentorlaw22_DeskPolls_5]
        exact Tells.ok (hQ2 _ _ (.inl ⟨rfl, n - 1, by omega, i + 1, by simp [k4], by simp [k5], by simp [k10], by simp, by omega, rfl⟩))
      · exact Tells.ok (hQ2 _ _ (.inr ⟨by simp, rfl, by simp [k4], by simp [k5], by simp [k10], rfl⟩))
    · exact ⟨0, by simp [t4], by simp [t5], by simp, by simp, by omega, rfl⟩
    · rintro ⟨ex, t'⟩ g' ⟨rfl, k4, k5, k10, rfl⟩
      simp only at k4 k5 k10
      simp [J_precentorlaw22_DeskPolls_2, k4, k5, k10, ol.len, hxl]
      refine Tells.bind (desk_Log hX ob1 rfl (c := 3) (by decide) rfl rfl (xs := []) Sl.nil (by simp) (by simp)) ?_
      rintro v3 g3 ⟨y3, ol3⟩
      have l3 := ol3.len
      simp at l3
      simp [l3]
      exact Tells.ok (hQ _ _ rfl)
end
end Go.Proofs.Ytnbmmebhammlkaa
