/-
  Law DeskOne: the walk.
-/
import Derived.Test.YtnbmmebhammlkaaDesk4
import Derived.Test.YtnbmmebhammlkaaLaw22a
set_option linter.unusedVariables false
set_option linter.unusedSimpArgs false
namespace Go.Proofs.Ytnbmmebhammlkaa
open Go.Ab

def nextL (gone : Bool) (ch : Sb) (now : List Sb) : List Sb := (now.filter fun x => !gone || x.n != ch.n) ++ (if gone = true then [] else [ch])
structure OInv (i : Nat) (last : Int) (h0 g : Heap) (bf b : Nat) (now : List Sb) (v5 : AVal) : Prop where
  fd : Feed g bf i
  nx : h0.next ≤ g.next
  ne : bf ≠ b
  bd : 0 ≤ last ∧ last ≤ i
  al : ∀ x, x ∈ now → x.c = 5 ∧ x.n ≤ last
  ln : now.length ≤ i
  v : Gl sbR h0 g v5 now
  s : ∃ vs gn nm, Sl sbR g vs now ∧ Ob g b (deskC 1 (one5 ⟨true, vs, last, false, gn, nm, .nils, 0⟩))
theorem all5 {now : List Sb} (h : ∀ x, x ∈ now → x.c = 5) : (now.filter fun x => x.c == 5) = now := List.filter_eq_self.2 fun x hx => by simp [h x hx]

section
variable {X : XTab}
theorem oneMid (hX : OnlyKnown X) {Q2 : Ex × T → Heap → Prop} {i : Nat} (hi : i < 24) {last : Int} {t : T} {h0 g : Heap} {bf b bx : Nat} {now : List Sb} {v5 vs : AVal} {gone : Bool} {ch : Sb}
    (t3 : t 3 = .ptr bf 0) (t4 : t 4 = .ptr b 0) (t5 : t 5 = v5) (t6 : t 6 = I last) (t7 : t 7 = I i) (t8 : t 8 = .ptr bx 0) (t9 : t 9 = I 0)
    (fd : Feed g bf (i + 1)) (nx : h0.next ≤ g.next) (ne : bf ≠ b) (nb : bx ≠ b) (bd : 0 ≤ last ∧ last ≤ (i : Int) + 1) (hal : ∀ x, x ∈ now → x.c = 5 ∧ x.n ≤ last) (ln : now.length ≤ i) (hc : ch.c = 5 ∧ ch.n ≤ last) (hh : hasSb now 5 ch.n = gone)
    (ov : Gl sbR h0 g v5 now) (ovs : Sl sbR g vs now) (ob : Ob g b (deskC 1 (one5 ⟨true, vs, last, true, gone, ch.n, .nils, 0⟩))) (ox : Ob g bx (chC gone ch))
    (hQ2 : ∀ t' g' now' v', t' 3 = .ptr bf 0 → t' 4 = .ptr b 0 → t' 5 = v' → t' 6 = I last → t' 7 = I ((i : Int) + 1) → OInv (i + 1) last h0 g' bf b now' v' → Q2 (.normal, t') g') :
    Tells (fun m => J_precentorlaw22_DeskOne_5 Try.prog (acallX Try.prog X m) m (blkK 1 (sqK (J_precentorlaw22_DeskOne_4 Try.prog (acallX Try.prog X m) m okK) okK)) t g) Q2 := by
  have w : IntKind.i64.wrap ((i : Int) + 1) = i + 1 := wrap_id (by omega) (by omega)
  have nb1 : busyN (one5 ⟨true, vs, last, true, gone, ch.n, .nils, 0⟩) = 1 := rfl
  have f5 := all5 fun x hx => (hal x hx).1
  unfold J_precentorlaw22_DeskOne_5
  simp [t9, t4]
  refine Tells.bind (desk_Busy hX ob rfl rfl) ?_
  rintro _ g ⟨rfl, rfl⟩
  simp [nb1, J_precentorlaw22_DeskOne_6, t4]
  refine Tells.bind (desk_Subscribe hX ob rfl (c := 5) (by decide) rfl rfl ovs (by simp; omega)) ?_
  rintro _ g1 ⟨x1, ⟨_, rfl, ob1⟩ | ⟨q, _⟩ | ⟨q, _⟩⟩
  rotate_left
  · cases q
  · cases q
  have ov1 := ov.extO x1 (by simpa using .inl ob.2.1)
  have ox1 := ox.ext x1 (by simpa using nb)
  have fd1 := fd.ext x1 (by simpa using ne)
  simp [extR]
  refine Tells.newSt (ds := chC false sb0) (by rfl) (by rfl) (by rfl) (by rfl) fun g2 by_ oy x2 l2 => ?_
  have ov2 := ov1.e x2
  have ox2 := ox1.e x2
  have ob2 := ob1.e x2
  simp [J_precentorlaw22_DeskOne_7, t4, t5]
  refine Tells.bind (desk_Open hX ob2 rfl ov2.1 (by omega)) ?_
  rintro _ g3 ⟨x3, vs3, ovs3, ob3⟩
  rw [f5] at ovs3 ob3
  simp only [hh, beq_self_eq_true, Bool.and_self] at ob3
  have ov3 := ov2.extO x3 (by simpa using .inl ob2.2.1)
  have ox3 := ox2.ext x3 (by simpa using nb)
  have fd3 := (fd1.e x2).ext x3 (by simpa using ne)
  have nx3 := Nat.le_trans nx (Nat.le_trans x1.next (Nat.le_trans x2.next x3.next))
  try simp [t4]
  refine Tells.bind (desk_Busy hX ob3 rfl rfl) ?_
  rintro _ g3 ⟨rfl, rfl⟩
  have nb3 : busyN (one5 ⟨true, vs3, last, true, gone, ch.n, .nils, 0⟩) = 1 := rfl
  simp [nb3, J_precentorlaw22_DeskOne_8]
  have ox3' := ox3.1
  simp only [chC, sbC] at ox3'
  refine Tells.bind (Tells.loop (fun m t' g' => ∃ k : Nat, t' 3 = .ptr bf 0 ∧ t' 4 = .ptr b 0 ∧ t' 5 = v5 ∧ t' 6 = I last ∧ t' 7 = I i ∧ t' 8 = .ptr bx 0 ∧ t' 14 = I k ∧ k + m = now.length ∧ Ext [] g3 g' ∧ Gl sbR g3 g' (t' 13) ((now.take k).filter fun x => !gone || x.n != ch.n))
    (Q := fun p g' => p.1 = .exit 2 ∧ p.2 3 = .ptr bf 0 ∧ p.2 4 = .ptr b 0 ∧ p.2 6 = I last ∧ p.2 7 = I i ∧ p.2 8 = .ptr bx 0 ∧ Ext [] g3 g' ∧ Gl sbR g3 g' (p.2 13) (now.filter fun x => !gone || x.n != ch.n)) ?_ now.length _ _ ?_) ?_
  · rintro m t' g' ⟨k, k3, k4, k5, k6, k7, k8, k14, hk, x, gl⟩
    refine Tells.prot fun Q3 hQ3 => ?_
    unfold L_precentorlaw22_DeskOne_11
    simp [k5, k14, (ov3.1.ext x).len]
    refine Tells.cb (fun hc' => ?_) (fun hc' => ?_)
    · simp at hc'
      obtain ⟨y, hy⟩ : ∃ y, now[k]? = some y := ⟨_, List.getElem?_eq_getElem hc'⟩
      obtain ⟨bb, p, B, q1, q2, q3, q4, q5⟩ := sb_at (ov3.1.ext x) hy
      have wk : IntKind.i64.wrap ((k : Int) + 1) = k + 1 := wrap_id (by omega) (by omega)
      have ht : now.take (k + 1) = now.take k ++ [y] := by rw [List.take_add_one, hy]; rfl
      have oxg := (ox3.e x).1
      simp only [chC, sbC] at oxg
      have lf : ((now.take k).filter fun x => !gone || x.n != ch.n).length ≤ k := Nat.le_trans (List.length_filter_le _ _) (by simp; omega)
      have add : ∀ (t2 : T), (!gone || y.n != ch.n) = true → True := fun _ _ => trivial
      cases gone with
      | false =>
        simp [J_precentorlaw22_DeskOne_12, k8, k5, k14, oxg, q1, q2, q3, q4]
        refine Tells.app1 (r := sbR) gl (by rfl) (by rfl) (show sbR.rep g' (sbC y) y from rfl) (by rfl) (by rfl) (by omega) (by decide) x.next fun v6 g6 gl6 x6 y6 z6 => ?_
        simp [J_precentorlaw22_DeskOne_13, k14, wk]
        exact Tells.ok (hQ3 _ _ (.inl ⟨rfl, m - 1, by omega, k + 1, by simp [k3], by simp [k4], by simp [k5], by simp [k6], by simp [k7], by simp [k8], by simp, by omega, y6 _ x, by rw [ht, List.filter_append]; simpa using gl6⟩))
      | true =>
        by_cases e : y.n = ch.n
        · simp [J_precentorlaw22_DeskOne_12, k8, k5, k14, oxg, q1, q2, q5, e, J_precentorlaw22_DeskOne_13, wk]
          exact Tells.ok (hQ3 _ _ (.inl ⟨rfl, m - 1, by omega, k + 1, by simp [k3], by simp [k4], by simp [k5], by simp [k6], by simp [k7], by simp [k8], by simp, by omega, x, by rw [ht, List.filter_append]; simpa [e] using gl⟩))
        · have e' : (y.n == ch.n) = false := beq_eq_false_iff_ne.2 e
          have e2 : (y.n != ch.n) = true := by simp [e]
          simp [J_precentorlaw22_DeskOne_12, k8, k5, k14, oxg, q1, q2, q3, q4, q5, e2]
          refine Tells.app1 (r := sbR) gl (by rfl) (by rfl) (show sbR.rep g' (sbC y) y from rfl) (by rfl) (by rfl) (by omega) (by decide) x.next fun v6 g6 gl6 x6 y6 z6 => ?_
          simp [J_precentorlaw22_DeskOne_13, k14, wk]
          exact Tells.ok (hQ3 _ _ (.inl ⟨rfl, m - 1, by omega, k + 1, by simp [k3], by simp [k4], by simp [k5], by simp [k6], by simp [k7], by simp [k8], by simp, by omega, y6 _ x, by rw [ht, List.filter_append]; simpa [e2] using gl6⟩))
    · simp at hc'
      rw [List.take_of_length_le (by omega)] at gl
      exact Tells.ok (hQ3 _ _ (.inr ⟨by simp, rfl, by simp [k3], by simp [k4], by simp [k6], by simp [k7], by simp [k8], x, by simpa using gl⟩))
  · exact ⟨0, by simp [t3], by simp [t4], by simp [t5], by simp [t6], by simp [t7], by simp [t8], by simp, by omega, .refl, by simpa using Gl.nil⟩
  · rintro ⟨ex, t'⟩ g4 ⟨rfl, k3, k4, k6, k7, k8, x4, gl4⟩
    simp only at k3 k4 k6 k7 k8 gl4
    have ox4 := (ox3.e x4).1
    simp only [chC, sbC] at ox4
    have ob4 := ob3.e x4
    have fd4 := fd3.e x4
    -- the rest
    have rest : ∀ (g5 : Heap) (t2 : T), t2 3 = .ptr bf 0 → t2 4 = .ptr b 0 → t2 6 = I last → t2 7 = I i → Ext [] g3 g5 → Gl sbR g3 g5 (t2 13) (nextL gone ch now) →
        Tells (fun m => J_precentorlaw22_DeskOne_10 Try.prog (acallX Try.prog X m) m (blkK 1 (sqK (J_precentorlaw22_DeskOne_4 Try.prog (acallX Try.prog X m) m okK) okK)) t2 g5) Q2 := by
      intro g5 t2 j3 j4 j6 j7 x5 gl5
      have nl : (nextL gone ch now).length ≤ i + 1 := by
        have := List.length_filter_le (fun x : Sb => !gone || x.n != ch.n) now
        unfold nextL
        cases gone <;> simp at this ⊢ <;> omega
      have na : ∀ x, x ∈ nextL gone ch now → x.c = 5 ∧ x.n ≤ last := fun y hy => by
        unfold nextL at hy
        rcases List.mem_append.1 hy with q | q
        · exact hal y ((List.mem_filter.1 q).1)
        · cases gone with
          | false => simp at q; subst q; exact hc
          | true => simp at q
      have hn : hasSb (nextL gone ch now) 5 ch.n = !gone := by
        unfold hasSb nextL
        cases gone with
        | false => simp [hc.1]
        | true =>
          show (((now.filter fun x : Sb => !true || x.n != ch.n) ++ []).any fun x : Sb => x.c == 5 && x.n == ch.n) = false
          rw [List.append_nil, List.any_eq_false]
          intro y hy
          have := (List.mem_filter.1 hy).2
          simp at this
          simp [this]
      simp [J_precentorlaw22_DeskOne_10, j4]
      refine Tells.bind (desk_Open hX (ob3.e x5) rfl gl5.1 (by omega)) ?_
      rintro _ g6 ⟨x6, vs6, ovs6, ob6⟩
      rw [all5 fun x hx => (na x hx).1] at ovs6 ob6
      simp only [hn, Bool.true_and] at ob6
      have hg : (gone == !gone) = false := by cases gone <;> rfl
      rw [hg] at ob6
      have gl6 := gl5.extO x6 (by simpa using .inl (ob3.e x5).2.1)
      try simp [j4]
      refine Tells.bind (desk_Busy hX ob6 rfl rfl) ?_
      rintro _ g6 ⟨rfl, rfl⟩
      have nb6 : busyN (one5 ⟨true, vs6, last, false, gone, ch.n, .nils, 0⟩) = 0 := rfl
      simp [nb6, J_precentorlaw22_DeskOne_4, j7, w]
      have fd6 := (fd3.e x5).ext x6 (by simpa using ne)
      exact Tells.ok (hQ2 _ _ (nextL gone ch now) (t2 13) (by simp [j3]) (by simp [j4]) (by simp) (by simp [j6]) (by simp) ⟨fd6, Nat.le_trans nx3 (Nat.le_trans x5.next x6.next), ne, by omega, na, nl, gl6.back nx3, vs6, gone, ch.n, ovs6, ob6⟩)
    cases gone with
    | true =>
      simp [J_precentorlaw22_DeskOne_9, k8, ox4]
      exact rest g4 _ (by simp [k3]) (by simp [k4]) (by simp [k6]) (by simp [k7]) x4 (by simpa [nextL] using gl4)
    | false =>
      have hcl := gl4.1.len
      have lf : (now.filter fun x => !false || x.n != ch.n).length ≤ i := Nat.le_trans (List.length_filter_le _ _) ln
      simp [J_precentorlaw22_DeskOne_9, k8, ox4]
      refine Tells.app1 (r := sbR) gl4 (by rfl) (by rfl) (show sbR.rep g4 (sbC ch) ch from rfl) (by rfl) (by rfl) (by omega) (by decide) x4.next fun v6 g6 gl6 x6 y6 z6 => ?_
      exact rest g6 _ (by simp [k3]) (by simp [k4]) (by simp [k6]) (by simp [k7]) (y6 _ x4) (by simpa [nextL] using gl6)

theorem oneStep (hX : OnlyKnown X) {Q2 : Ex × T → Heap → Prop} {i : Nat} (hi : i < 24) {last : Int} {t : T} {h0 g : Heap} {bf b : Nat} {now : List Sb} {v5 : AVal}
    (t3 : t 3 = .ptr bf 0) (t4 : t 4 = .ptr b 0) (t5 : t 5 = v5) (t6 : t 6 = I last) (t7 : t 7 = I i) (o : OInv i last h0 g bf b now v5)
    (hQ2 : ∀ t' g' now' v' last', t' 3 = .ptr bf 0 → t' 4 = .ptr b 0 → t' 5 = v' → t' 6 = I last' → t' 7 = I ((i : Int) + 1) → OInv (i + 1) last' h0 g' bf b now' v' → Q2 (.normal, t') g') :
    Tells (fun m => J_precentorlaw22_DeskOne_3 Try.prog (acallX Try.prog X m) m okK t g) Q2 := by
  obtain ⟨fd, nx, ne, bd, hal, ln, ov, vs, gn, nm, ovs, ob⟩ := o
  have wl : IntKind.i64.wrap (last + 1) = last + 1 := wrap_id (by omega) (by omega)
  unfold J_precentorlaw22_DeskOne_3
  simp [t4]
  refine Tells.bind (desk_Subscribe hX ob rfl (c := 5) (by decide) rfl rfl ovs (by simp; omega)) ?_
  rintro _ g1 ⟨x1, ⟨q, _⟩ | ⟨_, h3, rfl, ob1⟩ | ⟨_, h3, rfl, ob1⟩⟩
  · cases q
  · have ov1 := ov.extO x1 (by simpa using .inl ob.2.1)
    have fd1 := fd.ext x1 (by simpa using ne)
    simp [extR]
    refine Tells.newSt (ds := chC false sb0) (by rfl) (by rfl) (by rfl) (by rfl) fun g2 bx ox x2 l2 => ?_
    have nb : bx ≠ b := by have := ob1.lt; omega
    have ov2 := ov1.e x2
    simp [t5, t3, t4, ov2.1.len, show (3 : Int) ≤ now.length by omega, J_precentorlaw22_DeskOne_14]
    refine Tells.bind (Next hX now.length ⟨by omega, by omega⟩ (fd1.e x2) (by omega)) ?_
    rintro _ g3 ⟨r, rfl, r0, r1, _, x3, f3⟩
    have r1 := r1 (by omega)
    obtain ⟨k, rfl⟩ : ∃ k : Nat, r = k := ⟨r.toNat, by omega⟩
    obtain ⟨y, hy⟩ : ∃ y, now[k]? = some y := ⟨_, List.getElem?_eq_getElem (by omega)⟩
    have ov3 := ov2.extO x3 (by simpa using .inl (fd1.e x2).m)
    obtain ⟨bb, p, B, q1, q2, q3, q4, q5⟩ := sb_at ov3.1 hy
    have hm := List.mem_of_getElem? hy
    have ob3 := (ob1.e x2).ext x3 (by simpa using ne.symm)
    have nbf : bx ≠ bf := by have := fd1.lt; omega
    have ox3 := ox.ext x3 (by simpa using nbf)
    have hh : hasSb now 5 y.n = true := by
      unfold hasSb
      rw [List.any_eq_true]
      exact ⟨y, hm, by simp [(hal y hm).1]⟩
    have ovs3 := ((ovs.ext x1).ext x2).ext x3
    simp [q1, q2, q5, t4]
    refine Tells.bind (desk_Unsubscribe hX ob3 rfl (c := 5) (by decide) rfl rfl ovs3 (by omega) rfl hh) ?_
    rintro _ g4 ⟨x4, rfl, ob4⟩
    have ox4 := ox3.ext x4 (by simpa using nb)
    simp [extR]
    refine Tells.stN ox4 (ds := chC true ⟨5, 1, y.n⟩) (by rfl) (by rfl) (by rfl) (by rfl) fun g5 ox5 x5 => ?_
    have f4 := (f3.ext x4 (by simpa using ne)).ext x5 (by simpa using nbf.symm)
    have ov5 := (ov3.extO x4 (by simpa using .inl ob3.2.1)).extO x5 (by simpa using .inl ox4.2.1)
    have ob5 := ob4.ext x5 (by simpa using nb.symm)
    try simp
    exact oneMid hX hi (last := last) (gone := true) (ch := ⟨5, 1, y.n⟩) (vs := vs) (by simp [t3]) (by simp [t4]) (by simp [t5]) (by simp [t6]) (by simp [t7]) (by simp) (by simp) (f4.mono (by omega)) (Nat.le_trans nx (Nat.le_trans x1.next (Nat.le_trans x2.next (Nat.le_trans x3.next (Nat.le_trans x4.next x5.next))))) ne nb (by omega) hal ln ⟨rfl, (hal y hm).2⟩ hh ov5 ((ovs3.ext x4).ext x5) ob5 ox5 fun t' g' now' v' a b c d e f => hQ2 t' g' now' v' last a b c d e f
  · have ov1 := ov.extO x1 (by simpa using .inl ob.2.1)
    have fd1 := fd.ext x1 (by simpa using ne)
    simp [extR]
    refine Tells.newSt (ds := chC false ⟨5, 1, last + 1⟩) (by rfl) (by rfl) (by rfl) (by rfl) fun g2 bx ox x2 l2 => ?_
    have nb : bx ≠ b := by have := ob1.lt; omega
    have ov2 := ov1.e x2
    have ox' := ox.1
    simp only [chC, sbC] at ox'
    have hh : hasSb now 5 (last + 1) = false := by
      unfold hasSb
      rw [List.any_eq_false]
      intro y hy
      have := (hal y hy).2
      simp
      omega
    simp [t5, t6, ov2.1.len, show ¬ (3 : Int) ≤ now.length by omega, ox', wl, J_precentorlaw22_DeskOne_15]
    exact oneMid hX hi (last := last + 1) (gone := false) (ch := ⟨5, 1, last + 1⟩) (vs := vs) (by simp [t3]) (by simp [t4]) (by simp [t5]) (by simp) (by simp [t7]) (by simp) (by simp) ((fd1.e x2).mono (by omega)) (Nat.le_trans nx (Nat.le_trans x1.next x2.next)) ne nb (by omega) (fun x hx => ⟨(hal x hx).1, by have := (hal x hx).2; omega⟩) ln ⟨rfl, Int.le_refl _⟩ hh ov2 ((ovs.ext x1).ext x2) (ob1.e x2) ox fun t' g' now' v' a b c d e f => hQ2 t' g' now' v' (last + 1) a b c d e f
theorem deskOne_ (hX : OnlyKnown X) (hk : X F_precentorlaw22_known [] = some (.bool true)) {h : Heap} {v1 : AVal} {xs1 : List Int} (r1 : RawInts h v1 xs1) :
    Tells (fun m => acallX Try.prog X m F_precentorlaw22_DeskOne [v1] h) fun a _ => a = .bool true := by
  refine R_precentorlaw22_DeskOne _ (hX _ _ rfl) ?_
  refine Tells.prot fun Q' hQ => ?_
  unfold S_precentorlaw22_DeskOne
  simp [bldR, fillR, splice, r1.sl.known, r1.sl.cells]
  refine Tells.box rfl rfl fun h1 bf of x1 l1 => ?_
  have f1 : Feed h1 bf 0 := RawInts.feed' (r1.ext x1) of
  try simp
  refine Tells.bind (desk_New hX 1 h1) ?_
  rintro _ h2 ⟨b, rfl, ob, x2, l2⟩
  have ne : bf ≠ b := by have := f1.lt; omega
  try simp
  refine Tells.bind (known_X hk h2) ?_
  rintro _ h2 ⟨rfl, rfl⟩
  have pn := fun y z => ptr_nil (t := 26) Try.underlying26 y z b 0
  simp [pn]
  refine Tells.bind (desk_Attach hX ob rfl (c := 5) (by decide) rfl rfl) ?_
  rintro _ h3 ⟨rfl, ob3, x3⟩
  have ob3 : Ob h3 b (deskC 1 (one5 ⟨true, .nils, 0, false, false, 0, .nils, 0⟩)) := ob3
  have f3 := (f1.e x2).ext x3 (by simpa using ne)
  simp [J_precentorlaw22_DeskOne_0]
  refine Tells.bind (Tells.loop (fun m t g => ∃ (i : Nat) (last : Int) (now : List Sb) (v5 : AVal), t 3 = .ptr bf 0 ∧ t 4 = .ptr b 0 ∧ t 5 = v5 ∧ t 6 = I last ∧ t 7 = I i ∧ i + m = 24 ∧ OInv i last h3 g bf b now v5)
    (Q := fun p _ => p.1 = .exit 0) ?_ 24 _ _ ?_) ?_
  · rintro m t g ⟨i, last, now, v5, t3, t4, t5, t6, t7, hi, o⟩
    refine Tells.prot fun Q2 hQ2 => ?_
    unfold L_precentorlaw22_DeskOne_2
    by_cases hc : i < 24
    · simp [t7, show (i : Int) < 24 by omega]
      exact oneStep hX hc (by simp [t3]) (by simp [t4]) (by simp [t5]) (by simp [t6]) (by simp [t7]) o fun t' g' now' v' last' a b c d e f => hQ2 _ _ (.inl ⟨rfl, m - 1, by omega, i + 1, last', now', v', a, b, c, d, by simpa using e, by omega, f⟩)
    · simp [t7, show ¬ (i : Int) < 24 by omega]
      exact Tells.ok (hQ2 _ _ (.inr ⟨by simp, rfl⟩))
  · exact ⟨0, 0, [], .nils, by simp, by simp, by simp, by simp, by simp, rfl, f3, Nat.le_refl _, ne, by omega, by simp, by simp, Gl.nil, .nils, false, 0, Sl.nil, ob3⟩
  · rintro ⟨ex, t⟩ g rfl
    simp [J_precentorlaw22_DeskOne_1]
    exact Tells.ok (hQ _ _ rfl)
end
end Go.Proofs.Ytnbmmebhammlkaa
