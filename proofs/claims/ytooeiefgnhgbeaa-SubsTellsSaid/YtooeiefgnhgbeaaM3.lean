/-
  Texts of a claim, merged: ST3, ST4, ST5, ST6.
-/
import Derived.Test.YtooeiefgnhgbeaaM2
import Derived.Test.YtooeiefgnhgbeaaSprecentorlaw11
set_option linter.unusedVariables false
set_option linter.unusedSimpArgs false
/-! SubsTells: brokers of clients; changes; some subscriptions, right or not. -/
namespace Go.Proofs.Ytooeiefgnhgbeaa
open Go.Ab

theorem insI_idem (n : Int) : ∀ l : List Int, insI n (insI n l) = insI n l
  | [] => by simp [insI]
  | x :: r => by
    by_cases h : x < n
    · simp [insI, h, insI_idem n r]
    · by_cases e : x = n
      · simp [insI, e]
      · simp [insI, h, e]
theorem mem_insI {n y : Int} : ∀ {l : List Int}, y ∈ insI n l → y = n ∨ y ∈ l
  | [], h => by simp [insI] at h; exact .inl h
  | x :: r, h => by
    unfold insI at h
    split at h
    · rcases List.mem_cons.1 h with q | q
      · exact .inr (by simp [q])
      · rcases mem_insI q with k | k
        · exact .inl k
        · exact .inr (by simp [k])
    · split at h
      · exact .inr h
      · rcases List.mem_cons.1 h with q | q
        · exact .inl q
        · exact .inr q
theorem insI_sorted {n : Int} : ∀ {l : List Int}, l.Pairwise (· < ·) → (insI n l).Pairwise (· < ·)
  | [], _ => by simp [insI]
  | x :: r, h => by
    obtain ⟨h1, h2⟩ := List.pairwise_cons.1 h
    unfold insI
    by_cases c : x < n
    · rw [if_pos c]
      refine List.pairwise_cons.2 ⟨fun y hy => ?_, insI_sorted h2⟩
      rcases mem_insI hy with q | q
      · omega
      · exact h1 y q
    · rw [if_neg c]
      by_cases e : x = n
      · rw [if_pos e]; exact h
      · rw [if_neg e]
        refine List.pairwise_cons.2 ⟨fun y hy => ?_, h⟩
        rcases List.mem_cons.1 hy with q | q
        · omega
        · have := h1 y q; omega
theorem insI_len (n : Int) : ∀ l : List Int, (insI n l).length ≤ l.length + 1
  | [] => by simp [insI]
  | x :: r => by
    have := insI_len n r
    unfold insI
    split
    · simp; omega
    · split <;> simp
theorem putL_insI {n : Int} : ∀ {l : List Int}, l.Pairwise (· < ·) → putL l n = insI n l
  | [], _ => by simp [putL, insI]
  | x :: r, h => by
    obtain ⟨h1, h2⟩ := List.pairwise_cons.1 h
    have ih := putL_insI (n := n) h2
    unfold insI
    by_cases c : x < n
    · rw [if_pos c, ← ih]
      have e1 : (x == n) = false := beq_eq_false_iff_ne.2 (by omega)
      have e2 : ¬ n < x := by omega
      unfold putL
      simp only [List.any_cons, e1, Bool.false_or]
      by_cases ha : r.any (· == n) = true
      · rw [if_pos ha, if_pos ha]
      · rw [if_neg ha, if_neg ha]
        simp [c, e2]
    · rw [if_neg c]
      by_cases e : x = n
      · rw [if_pos e]
        unfold putL
        rw [if_pos (by simp [e])]
      · rw [if_neg e]
        have ha : ¬ (x :: r).any (· == n) = true := by
          simp only [List.any_cons, Bool.or_eq_true, beq_iff_eq, not_or]
          refine ⟨e, fun k => ?_⟩
          obtain ⟨y, hy, ky⟩ := List.any_eq_true.1 k
          have := h1 y hy
          simp at ky
          omega
        unfold putL
        rw [if_neg ha]
        have f : (x :: r).filter (fun y => decide (n < y)) = x :: r := by
          rw [List.filter_eq_self]
          intro y hy
          rcases List.mem_cons.1 hy with q | q
          · simp; omega
          · have := h1 y q; simp; omega
        rw [f]
        simp [c]

def homesL (cs : List Int) (l : List Sx) : List Int := l.foldl (fun out s => if cs.any (· == s.c) = true then insI s.b out else out) []
theorem homesL_snoc (cs : List Int) {l : List Sx} {i : Nat} {s : Sx} (h : l[i]? = some s) : homesL cs (l.take (i + 1)) = if cs.any (· == s.c) = true then insI s.b (homesL cs (l.take i)) else homesL cs (l.take i) := by
  unfold homesL
  rw [List.take_add_one, h, List.foldl_append]
  rfl
theorem homesL_ok (cs : List Int) (l : List Sx) : ∀ i, i ≤ l.length → (homesL cs (l.take i)).Pairwise (· < ·) ∧ (homesL cs (l.take i)).length ≤ i
  | 0, _ => by simp [homesL]
  | i + 1, hi => by
    obtain ⟨k1, k2⟩ := homesL_ok cs l i (by omega)
    obtain ⟨s, hs⟩ : ∃ s, l[i]? = some s := ⟨_, List.getElem?_eq_getElem (by omega)⟩
    rw [homesL_snoc cs hs]
    split
    · exact ⟨insI_sorted k1, by have := insI_len s.b (homesL cs (l.take i)); omega⟩
    · exact ⟨k1, by omega⟩

section
variable {X : XTab}

theorem subs_Brokers (hX : OnlyKnown X) {h : Heap} {v cv : AVal} {l : List Sx} {cs : List Int} (o : Sl sxR h v l) (hl : l.length ≤ 900) (oc : Sl intR h cv cs) (hc : cs.length ≤ 1000) :
    Tells (fun q => acallX Try.prog X q F_subs_Brokers [v, cv] h) fun r h' => Sl intR h' r (homesL cs l) ∧ Ext [] h h' := by
  refine R_subs_Brokers _ _ (hX _ _ rfl) ?_
  refine Tells.prot fun Q' hQ => ?_
  unfold S_subs_Brokers
  simp [o.len]
  refine Tells.bind (Tells.loop (fun n t g => ∃ i : Nat, t 1 = cv ∧ t 10 = v ∧ t 11 = I l.length ∧ t 12 = I i ∧ i + n = l.length ∧ Sl intR g (t 5) (homesL cs (l.take i)) ∧ Ext [] h g)
    (Q := fun p g => p.1 = .exit 0 ∧ Sl intR g (p.2 5) (homesL cs l) ∧ Ext [] h g) ?_ l.length _ _ ⟨0, by simp, by simp, by simp, by simp, by omega, by simpa [homesL] using Sl.nil, .refl⟩) ?_
  · rintro n t g ⟨i, t1, t10, t11, t12, hi, so, xg⟩
    refine Tells.prot fun Q2 hQ2 => ?_
    unfold L_subs_Brokers_1
    have og := o.ext xg
    simp [t11, t12]
    refine Tells.cb (fun hcc => ?_) (fun hcc => ?_)
    · simp at hcc
      obtain ⟨s, hs⟩ : ∃ s, l[i]? = some s := ⟨_, List.getElem?_eq_getElem hcc⟩
      obtain ⟨b, q, B, c, q1, q2, fv, rfl, of_, _⟩ := og.at (n := 4) rfl (i := (i : Int)) (by omega) (by simpa using hs)
      have w : IntKind.i64.wrap ((i : Int) + 1) = i + 1 := wrap_id (by omega) (by omega)
      have q4 := q2.lda (n := 4) rfl
      obtain ⟨k1, k2⟩ := homesL_ok cs l i (by omega)
      simp [J_subs_Brokers_2, t10, t12, q1, q4]
      refine Tells.newSt (ds := sxC s fv) (by rfl) (by rfl) (by rfl) (by simp [sxC, of_.one]) fun g1 bs os x1 l1 => ?_
      have ocg := (oc.ext xg).ext x1
      simp [t1, ocg.len]
      refine Tells.bind (Tells.loop (fun n t g2 => ∃ j : Nat, t 1 = cv ∧ t 7 = .ptr bs 0 ∧ t 10 = v ∧ t 11 = I l.length ∧ t 12 = I i ∧ t 16 = cv ∧ t 17 = I cs.length ∧ t 18 = I j ∧ j + n = cs.length ∧ Sl intR g2 (t 5) (if (cs.take j).any (· == s.c) = true then insI s.b (homesL cs (l.take i)) else homesL cs (l.take i)) ∧ Ext [] g1 g2)
        (Q := fun p g2 => p.1 = .exit 2 ∧ p.2 1 = cv ∧ p.2 10 = v ∧ p.2 11 = I l.length ∧ p.2 12 = I i ∧ Sl intR g2 (p.2 5) (homesL cs (l.take (i + 1))) ∧ Ext [] g1 g2) ?_ cs.length _ _ ⟨0, by simp [t1], by simp, by simp [t10], by simp [t11], by simp [t12], by simp, by simp, by simp, by omega, by simpa using so.ext x1, .refl⟩) ?_
      · rintro n t g2 ⟨j, t1, t7, t10, t11, t12, t16, t17, t18, hj, so, xg2⟩
        refine Tells.prot fun Q3 hQ3 => ?_
        unfold L_subs_Brokers_4
        simp [t17, t18]
        refine Tells.cb (fun hcc => ?_) (fun hcc => ?_)
        · simp at hcc
          obtain ⟨y, hy⟩ : ∃ y, cs[j]? = some y := ⟨_, List.getElem?_eq_getElem hcc⟩
          obtain ⟨b3, p3, B3, r1, r2, r3⟩ := (ocg.ext xg2).atI hy
          have w2 : IntKind.i64.wrap ((j : Int) + 1) = j + 1 := wrap_id (by omega) (by omega)
          have os2 := os.e xg2
          have tk : (cs.take (j + 1)).any (· == s.c) = ((cs.take j).any (· == s.c) || y == s.c) := by
            rw [List.take_add_one, hy, List.any_append]; simp
          have ln : (if (cs.take j).any (· == s.c) = true then insI s.b (homesL cs (l.take i)) else homesL cs (l.take i)).length ≤ 1000 := by
            have := insI_len s.b (homesL cs (l.take i))
            split <;> omega
          by_cases e : s.c = y
          · simp [J_subs_Brokers_5, t16, t18, r1, r2, r3, t7, os2.1, sxC, e]
            refine Tells.bind (subs_lay hX so ln s.b) ?_
            rintro r g3 ⟨sr, x3⟩
            simp [J_subs_Brokers_6, t18, w2]
            refine Tells.ok (hQ3 _ _ (.inl ⟨rfl, n - 1, by omega, j + 1, by simp [t1], by simp [t7], by simp [t10], by simp [t11], by simp [t12], by simp [t16], by simp [t17], by simp, by omega, ?_, xg2.trans x3⟩))
            rw [tk, e]
            simp
            have e2 : insI s.b (if (cs.take j).any (· == s.c) = true then insI s.b (homesL cs (l.take i)) else homesL cs (l.take i)) = insI s.b (homesL cs (l.take i)) := by
              split
              · exact insI_idem _ _
              · rfl
            rw [e2] at sr
            exact sr
          · have e' : (y == s.c) = false := beq_eq_false_iff_ne.2 (fun q => e q.symm)
            simp [J_subs_Brokers_5, t16, t18, r1, r2, r3, t7, os2.1, sxC, beq_eq_false_iff_ne.2 e, J_subs_Brokers_6, w2]
            refine Tells.ok (hQ3 _ _ (.inl ⟨rfl, n - 1, by omega, j + 1, by simp [t1], by simp [t7], by simp [t10], by simp [t11], by simp [t12], by simp [t16], by simp [t17], by simp, by omega, ?_, xg2⟩))
            rw [tk, e', Bool.or_false]
            simpa using so
        · simp at hcc
          rw [List.take_of_length_le (by omega), ← homesL_snoc cs hs] at so
          exact Tells.ok (hQ3 _ _ (.inr ⟨by simp, rfl, by simp [t1], by simp [t10], by simp [t11], by simp [t12], by simpa using so, xg2⟩))
      · rintro ⟨ex, t2⟩ g2 ⟨rfl, a1, a10, a11, a12, so2, x2⟩
        have a12 : t2 12 = I i := a12
        have a1 : t2 1 = cv := a1
        have a10 : t2 10 = v := a10
        have a11 : t2 11 = I l.length := a11
        simp [J_subs_Brokers_3, a12, w]
        exact Tells.ok (hQ2 _ _ (.inl ⟨rfl, n - 1, by omega, i + 1, by simp [a1], by simp [a10], by simp [a11], by simp, by omega, by simpa using so2, (xg.trans x1).trans x2⟩))
    · simp at hcc
      have hfl : l.take i = l := List.take_of_length_le (by omega)
      rw [hfl] at so
      exact Tells.ok (hQ2 _ _ (.inr ⟨by simp, rfl, by simpa using so, xg⟩))
  · rintro ⟨ex, t⟩ g ⟨rfl, so, xg⟩
    simp [J_subs_Brokers_0]
    exact Tells.ok (hQ _ _ ⟨by simpa using so, xg⟩)

theorem ref_Homes (hX : OnlyKnown X) {h : Heap} {v cv : AVal} {l : List Sx} {cs : List Int} (o : Sl sxR h v l) (hl : l.length ≤ 900) (oc : Sl intR h cv cs) (hc : cs.length ≤ 1000) :
    Tells (fun q => acallX Try.prog X q F_precentorref9_Homes [v, cv] h) fun r h' => Sl intR h' r (homesL cs l) ∧ Ext [] h h' := by
  refine R_precentorref9_Homes _ _ (hX _ _ rfl) ?_
  refine Tells.prot fun Q' hQ => ?_
  unfold S_precentorref9_Homes
  try simp
  refine Tells.bind (Tells.loop (fun n t g => ∃ i : Nat, t 0 = v ∧ t 1 = cv ∧ t 6 = I i ∧ i + n = l.length ∧ Sl intR g (t 5) (homesL cs (l.take i)) ∧ Ext [] h g)
    (Q := fun p g => p.1 = .exit 0 ∧ Sl intR g (p.2 5) (homesL cs l) ∧ Ext [] h g) ?_ l.length _ _ ⟨0, by simp, by simp, by simp, by omega, by simpa [homesL] using Sl.nil, .refl⟩) ?_
  · rintro n t g ⟨i, t0, t1, t6, hi, so, xg⟩
    refine Tells.prot fun Q2 hQ2 => ?_
    unfold L_precentorref9_Homes_1
    have og := o.ext xg
    have ocg := oc.ext xg
    simp [t0, t6, og.len]
    refine Tells.cb (fun hcc => ?_) (fun hcc => ?_)
    · simp at hcc
      obtain ⟨s, hs⟩ : ∃ s, l[i]? = some s := ⟨_, List.getElem?_eq_getElem hcc⟩
      obtain ⟨b, q, B, c, q1, q2, fv, rfl, of_, _⟩ := og.at (n := 4) rfl (i := (i : Int)) (by omega) (by simpa using hs)
      have w : IntKind.i64.wrap ((i : Int) + 1) = i + 1 := wrap_id (by omega) (by omega)
      have q40 := q2.cell0 (by simp [sxC])
      have q41 := q2.cell (k := 1) (by simp [sxC])
      simp [sxC] at q40 q41
      obtain ⟨k1, k2⟩ := homesL_ok cs l i (by omega)
      have tk := homesL_snoc cs hs
      simp [J_precentorref9_Homes_2, t0, t1, t6, q1, q2.get, q40]
      refine Tells.bind (ref_In hX ocg (by omega) s.c) ?_
      rintro _ g1 ⟨rfl, rfl⟩
      cases e : cs.any (· == s.c) with
      | true =>
        simp [t0, t6, q1, q2.get, q41]
        refine Tells.bind (ref_Put hX so (by omega) s.b) ?_
        rintro r g2 ⟨sr, x2⟩
        rw [putL_insI k1] at sr
        simp [J_precentorref9_Homes_3, t6, w]
        exact Tells.ok (hQ2 _ _ (.inl ⟨rfl, n - 1, by omega, i + 1, by simp [t0], by simp [t1], by simp, by omega, by rw [tk, if_pos e]; simpa using sr, xg.trans x2⟩))
      | false =>
        simp [J_precentorref9_Homes_3, t6, w]
        exact Tells.ok (hQ2 _ _ (.inl ⟨rfl, n - 1, by omega, i + 1, by simp [t0], by simp [t1], by simp, by omega, by rw [tk, if_neg (by simp [e])]; simpa using so, xg⟩))
    · simp at hcc
      have hfl : l.take i = l := List.take_of_length_le (by omega)
      rw [hfl] at so
      exact Tells.ok (hQ2 _ _ (.inr ⟨by simp, rfl, by simpa using so, xg⟩))
  · rintro ⟨ex, t⟩ g ⟨rfl, so, xg⟩
    simp [J_precentorref9_Homes_0]
    exact Tells.ok (hQ _ _ ⟨by simpa using so, xg⟩)
end
end Go.Proofs.Ytooeiefgnhgbeaa

/-! SubsTells: changes; some subscriptions, right or not. -/
namespace Go.Ab
theorem RowZ.rep_move {α : Type} {F : Fam α} {K : Nat} {h h' : Heap} {v : AVal} {b : Nat} {c : List AVal} {y : α} (x : ExtC b h h') (hb : b ∈ v.blks) (r : (F.r fun q => ¬ h.isRoot v q ∧ K ≤ q).rep h c y) : (F.r fun q => ¬ h'.isRoot v q ∧ K ≤ q).rep h' c y := by
  refine F.mono (fun q _ z => ⟨?_, z.2⟩) (F.extC (fun z => z.1 ⟨b, hb, rfl⟩) x r)
  rintro ⟨d, hd, rfl⟩
  exact z.1 ⟨d, hd, by unfold Heap.root; rw [x.cls]⟩
end Go.Ab
namespace Go.Proofs.Ytooeiefgnhgbeaa
open Go.Ab

def FedA (l : List Sx) : Prop := ∀ s, s ∈ l → FedF s.fl
theorem FedA.set {l : List Sx} (h : FedA l) {i : Nat} {s : Sx} (hs : FedF s.fl) : FedA (l.set i s) := fun y hy => by
  rcases List.mem_or_eq_of_mem_set hy with q | q
  · exact h y q
  · rw [q]; exact hs

section
variable {X : XTab}

theorem changes11 (hX : OnlyKnown X) {h : Heap} {bg k : Nat} (f : Feed h bg k) (hk : k < 2 ^ 55) :
    Tells (fun q => acallX Try.prog X q F_precentorlaw11_changes [.ptr bg 0] h) fun r h' => ∃ ch : List Cg, Sl cgR h' r ch ∧ ch.length ≤ 6 ∧ (∀ g, g ∈ ch → FedF g.s.fl) ∧ Ext [bg] h h' ∧ Feed h' bg (k + 500) := by
  refine R_precentorlaw11_changes _ (hX _ _ rfl) ?_
  refine Tells.prot fun Q' hQ => ?_
  unfold S_precentorlaw11_changes
  try simp
  refine Tells.bind (Next hX 7 ⟨by decide, by decide⟩ f (by omega)) ?_
  rintro _ h4 ⟨u, rfl, u0, u1, _, x4, g4⟩
  have u1 := u1 (by decide)
  obtain ⟨u, rfl⟩ : ∃ n : Nat, u = n := ⟨u.toNat, by omega⟩
  try simp
  refine Tells.bind (Tells.loop (fun s t g => ∃ (i : Nat) (ch : List Cg), t 0 = .ptr bg 0 ∧ t 4 = I ((u : Int) - i) ∧ i + s = u ∧ ch.length = i ∧ (∀ y, y ∈ ch → FedF y.s.fl) ∧ Gl cgR h4 g (t 3) ch ∧ Ext [bg] h4 g ∧ Feed g bg (k + 1 + 64 * i))
    (Q := fun r g => r.1 = .exit 0 ∧ ∃ ch : List Cg, ch.length ≤ 6 ∧ (∀ y, y ∈ ch → FedF y.s.fl) ∧ Sl cgR g (r.2 3) ch ∧ Ext [bg] h4 g ∧ Feed g bg (k + 500)) ?_ u _ _ ⟨0, [], by simp, by simp, by omega, rfl, by simp, by simpa using Gl.nil, .refl, by simpa using g4⟩) ?_
  · rintro s t g ⟨i, ch, t0, t4, hi, hlen, hch, gc, xg, fg⟩
    refine Tells.prot fun Q2 hQ2 => ?_
    unfold L_precentorlaw11_changes_1
    by_cases hc : i < u
    · have hc' : (0 : Int) < (u : Int) - i := by omega
      have hc2 : (i : Int) < u := by omega
      have wu : IntKind.i64.wrap ((u : Int) - i - 1) = (u : Int) - i - 1 := wrap_id (by omega) (by omega)
      simp [t4, hc, hc', hc2, J_precentorlaw11_changes_2, t0]
      refine Tells.bind (Next hX 2 ⟨by decide, by decide⟩ fg (by omega)) ?_
      rintro _ g1 ⟨r, rfl, _, _, _, y1, d1⟩
      have c1 := gc.extO y1 (by simpa using .inl fg.m)
      try simp [t0]
      refine Tells.bind (Next hX 8 ⟨by decide, by decide⟩ d1 (by omega)) ?_
      rintro _ g2 ⟨c, rfl, cl0, cl1, _, y2, d2⟩
      have c2 := c1.extO y2 (by simpa using .inl d1.m)
      try simp [t0]
      refine Tells.bind (Next hX 4 ⟨by decide, by decide⟩ d2 (by omega)) ?_
      rintro _ g3 ⟨b, rfl, nl0, nl1, _, y3, d3⟩
      have c3 := c2.extO y3 (by simpa using .inl d2.m)
      try simp [t0]
      refine Tells.bind (Next hX 7 ⟨by decide, by decide⟩ d3 (by omega)) ?_
      rintro _ g3' ⟨n, rfl, _, _, _, y3', d3'⟩
      have c3' := c3.extO y3' (by simpa using .inl d3.m)
      try simp [t0]
      refine Tells.bind (FilterH hX d3' (by omega)) ?_
      rintro fv g4' ⟨fl, rf, hfl, y4, d4⟩
      have c4 := c3'.extO y4 (by simpa using .inl d3'.m)
      have X4 := ((((xg.trans y1).trans y2).trans y3).trans y3').trans y4
      simp [bldR, fillR, splice, rf.2.1.known, rf.2.1.cells]
      refine Tells.app1 c4 (by rfl) (by rfl) (show cgR.rep g4' (.bool (r == 0) :: sxC ⟨c, b, n, fl⟩ fv) ⟨r == 0, ⟨c, b, n, fl⟩⟩ from ⟨fv, rfl, rf.sl, fun _ _ => trivial⟩) (by rfl) (by rfl) (by omega) (by decide) X4.next fun s5 g5 c5 y5 z5 _ => ?_
      have d5 := d4.ext y5 (fun q => by have := (c4.1.blk _ q).1; rw [d4.m] at this; cases this)
      simp [J_precentorlaw11_changes_3, t4, wu]
      refine Tells.ok (hQ2 _ _ (.inl ⟨rfl, s - 1, by omega, i + 1, ch ++ [⟨r == 0, ⟨c, b, n, fl⟩⟩], by simp [t0], by simp; omega, by omega, by simp; omega, fun y hy => ?_, by simpa using c5, z5 [bg] X4, d5.mono (by omega)⟩))
      rcases List.mem_append.1 hy with q | q
      · exact hch y q
      · simp at q; subst q; exact hfl
    · have hc' : ¬ (0 : Int) < (u : Int) - i := by omega
      have hc2 : ¬ (i : Int) < u := by omega
      simp [t4, hc, hc', hc2]
      exact Tells.ok (hQ2 _ _ (.inr ⟨by simp, rfl, ch, by omega, hch, by simpa using gc.1, xg, fg.mono (by omega)⟩))
  · rintro ⟨ex, t⟩ g ⟨rfl, ch, hl, hch, sc, xg, fg⟩
    simp [J_precentorlaw11_changes_0]
    exact Tells.ok (hQ _ _ ⟨ch, by simpa using sc, hl, hch, x4.trans xg, fg⟩)

theorem some11 (hX : OnlyKnown X) {h : Heap} {bf k : Nat} (f : Feed h bf k) (hk : k < 2 ^ 55) (n : Int) :
    Tells (fun q => acallX Try.prog X q F_precentorlaw11_some [.ptr bf 0, I n] h) fun r h' => ∃ l : List Sx, Sl sxR h' r l ∧ l.length ≤ 19 ∧ FedA l ∧ Ext [bf] h h' ∧ Feed h' bf (k + 1310) := by
  refine R_precentorlaw11_some _ _ (hX _ _ rfl) ?_
  refine Tells.prot fun Q' hQ => ?_
  unfold S_precentorlaw11_some
  try simp
  refine Tells.lit (r := intR) (xs := [0, 0, 1]) (css := [[I 0], [I 0], [I 1]]) (by rfl) ⟨rfl, rfl, rfl, trivial⟩ (by rfl) (by rfl) (by simp [bslR, fillR, splice]) fun pv h1 gp x1 _ => ?_
  try simp
  refine Tells.bind (SubsH hX (f.e x1) (by omega) gp.1 (by simp)) ?_
  rintro lv h2 ⟨l, rz, fs, hl, x2, f2⟩
  have X2 : Ext [bf] h h2 := x1.of.trans x2
  have fa : FedA l := fun s hs => (fs.f s hs).1
  have n1 := x1.next
  -- how each way ends
  have fin : ∀ (t : T) (g : Heap) (r : AVal) (l' : List Sx) (K : Nat), K ≤ k + 1310 → t 5 = r → Sl sxR g r l' → l'.length ≤ 19 → FedA l' → Ext [bf] h g → Feed g bf K →
      Tells (fun m => J_precentorlaw11_some_0 Try.prog (acallX Try.prog X m) m (retK Try.prog [.tmp 4]) t g) Q' := fun t g r l' K hK t5 so hl' fa' x' f' => by
    simp [J_precentorlaw11_some_0, t5]
    exact Tells.ok (hQ _ _ ⟨l', so, hl', fa', x', f'.mono hK⟩)
  by_cases h0 : 1 < l.length
  · have h0' : (1 : Int) < l.length := by omega
    have wl : IntKind.i64.wrap ((l.length : Int) - 1) = (l.length : Int) - 1 := wrap_id (by omega) (by omega)
    simp [rz.len, h0, h0']
    refine Tells.bind (Next hX 3 ⟨by decide, by decide⟩ f2 (by omega)) ?_
    rintro _ h3 ⟨r, rfl, _, _, _, x3, f3⟩
    have rz3 := rz.extO x3 (by simpa using .inl f2.m)
    have X3 := X2.trans x3
    by_cases hr : r = 0
    · subst hr
      simp [rz.len, wl]
      refine Tells.bind (Next hX ((l.length : Int) - 1) ⟨by omega, by omega⟩ f3 (by omega)) ?_
      rintro _ h4 ⟨j, rfl, j0, j1, _, x4, f4⟩
      have j1 := j1 (by omega)
      obtain ⟨j, rfl⟩ : ∃ n : Nat, j = n := ⟨j.toNat, by omega⟩
      have rz4 := rz3.extO x4 (by simpa using .inl f3.m)
      have X4 := X3.trans x4
      have wj : IntKind.i64.wrap (1 + (j : Int)) = (j : Int) + 1 := by rw [wrap_id (by omega) (by omega)]; omega
      have hcast : ((j + 1 : Nat) : Int) = (j : Int) + 1 := by omega
      simp [wj]
      refine Tells.bind (Next hX 5 ⟨by decide, by decide⟩ f4 (by omega)) ?_
      rintro _ h5 ⟨w, rfl, w0, w1, _, x5, f5⟩
      have w1 := w1 (by decide)
      have rz5 := rz4.extO x5 (by simpa using .inl f4.m)
      have X5 := X4.trans x5
      have n5 := X5.next
      have hj : j + 1 < l.length := by omega
      obtain ⟨x, hx⟩ : ∃ x, l[j]? = some x := ⟨_, List.getElem?_eq_getElem (by omega)⟩
      obtain ⟨y, hy⟩ : ∃ y, l[j + 1]? = some y := ⟨_, List.getElem?_eq_getElem hj⟩
      have fx := fa x (List.mem_of_getElem? hx)
      have fy := fa y (List.mem_of_getElem? hy)
      obtain ⟨b1, p1, B1, c1, q1, q2, q3⟩ := rz5.at (n := 4) rfl hx
      obtain ⟨b2, p2, B2, c2, r1, r2, r3⟩ := rz5.at (n := 4) rfl hy
      have q4 := q2.lda (n := 4) ((sxF.r _).len q3)
      have r4 := r2.lda (n := 4) ((sxF.r _).len r3)
      have wk : IntKind.i64.wrap (j : Int) = (j : Int) := wrap_id (by omega) (by omega)
      rw [hcast] at r1
      have lb : h1.next ≤ h5.next := by have := x2.next; have := x3.next; have := x4.next; have := x5.next; omega
      by_cases c0 : w = 0
      · subst c0
        obtain ⟨b3, p3, v3, i1, i2, i3, i4, i5, g6, i6, i7, rz6⟩ := rz5.putE (n := 4) rfl hj q3
        have i6' := i6 (.agg c1) rfl
        rw [hcast] at i5
        cases r1.symm.trans i5
        have r3' := RowZ.rep_move i7 (by rw [v3]; simp) r3
        obtain ⟨b4, p4, v4, k1, k2, k3, k4, k5, g7, k6, k7, rz7⟩ := rz6.putE (n := 4) rfl (i := j) (by simp; omega) r3'
        cases q1.symm.trans k5
        have k6' := k6 (.agg c2) rfl
        simp [wk, q1, q4, r1, r4, i6', k5, k6']
        refine fin _ g7 lv _ _ ?_ (by simp) rz7.sl (by simp; omega) ((fa.set fx).set fy) ((X5.extC i7 (by omega)).extC k7 (by omega)) ((f5.extCX i7 i1 i4).extCX k7 k1 k4)
        omega
      · have e0 : (w == 0) = false := beq_eq_false_iff_ne.2 c0
        obtain ⟨b3, p3, B3, c3, v3, k1, k2, k3, k4, k5, k6, ⟨fv, rfl, of_, zf⟩, put⟩ := rz5.set1 (n := 4) rfl hy
        rw [hcast] at k5
        by_cases d1 : w = 1
        · subst d1
          obtain ⟨g6, s1, s2, s3⟩ := put 0 (I x.c) { y with c := x.c } (by decide) (by rfl) (by rfl) ⟨fv, by simp [sxC], of_, zf⟩
          simp at s1
          obtain ⟨xv, rfl, _, _⟩ := q3
          have q40 := q2.cell0 (by simp [sxC])
          simp [sxC] at q40
          simp [wk, q1, q2.get, q40, k5, s1]
          refine fin _ g6 lv _ _ ?_ (by simp) s3.sl (by simp; omega) (fa.set fy) (X5.extC s2 (by omega)) (f5.extCX s2 k1 k4)
          omega
        · have e1 : (w == 1) = false := beq_eq_false_iff_ne.2 d1
          by_cases d2 : w = 2
          · subst d2
            obtain ⟨g6, s1, s2, s3⟩ := put 2 (I n) { y with n := n } (by decide) (by rfl) (by rfl) ⟨fv, by simp [sxC], of_, zf⟩
            simp [k5, s1]
            refine fin _ g6 lv _ _ ?_ (by simp) s3.sl (by simp; omega) (fa.set fy) (X5.extC s2 (by omega)) (f5.extCX s2 k1 k4)
            omega
          · have e2 : (w == 2) = false := beq_eq_false_iff_ne.2 d2
            by_cases d3 : w = 3
            · subst d3
              try simp
              refine Tells.bind (Next hX 10 ⟨by decide, by decide⟩ f5 (by omega)) ?_
              rintro _ h6 ⟨z, rfl, z0, z1, _, x6, f6⟩
              have z1 := z1 (by decide)
              have rz6 := rz5.extO x6 (by simpa using .inl f5.m)
              have X6 := X5.trans x6
              have wz : IntKind.i64.wrap (z - 1) = z - 1 := wrap_id (by omega) (by omega)
              obtain ⟨b3, p3, B3, c3, v3, k1, k2, k3, k4, k5, k6, ⟨fv, rfl, of_, zf⟩, put⟩ := rz6.set1 (n := 4) rfl hy
              rw [hcast] at k5
              obtain ⟨g6, s1, s2, s3⟩ := put 1 (I (z - 1)) { y with b := z - 1 } (by decide) (by rfl) (by rfl) ⟨fv, by simp [sxC], of_, zf⟩
              simp [wz, k5, s1]
              refine fin _ g6 lv _ _ ?_ (by simp) s3.sl (by simp; omega) (fa.set fy) (X6.extC s2 (by omega)) (f6.extCX s2 k1 k4)
              omega
            · have e3 : (w == 3) = false := beq_eq_false_iff_ne.2 d3
              simp [e0, e1, e2, e3, r1, r4]
              refine Tells.appZ rz5 (by rfl) (by rfl) (x := y) r3 (by rfl) (by rfl) (by omega) (by decide) lb fun s6 g6 rz6 x6 y6 => ?_
              have f6 := f5.ext x6 (fun q => by have := (rz5.2.1.blk _ q).1; rw [f5.m] at this; cases this)
              try simp
              refine fin _ g6 s6 (l ++ [y]) _ ?_ (by simp) rz6.sl (by simp; omega) (fun s hs => ?_) (x1.of.trans (y6 [bf] (((x2.trans x3).trans x4).trans x5))) f6
              · omega
              · rcases List.mem_append.1 hs with q | q
                · exact fa s q
                · simp at q; subst q; exact fy
    · simp [beq_eq_false_iff_ne.2 hr]
      refine fin _ h3 lv l _ ?_ (by simp) rz3.sl (by omega) fa X3 f3
      omega
  · have h0' : ¬ (1 : Int) < l.length := by omega
    simp [rz.len, h0, h0']
    refine fin _ h2 lv l _ ?_ (by simp) rz.sl (by omega) fa X2 f2
    omega
end
end Go.Proofs.Ytooeiefgnhgbeaa

/-! SubsTells: what the walk needs of the lists. -/
namespace Go.Proofs.Ytooeiefgnhgbeaa
open Go.Ab

theorem in_setF {s y : Sx} : ∀ {l : List Sx}, y ∈ setF s l → y = s ∨ y ∈ l
  | [], h => by simp [setF] at h
  | x :: l, h => by
    unfold setF at h
    split at h
    · rcases List.mem_cons.1 h with q | q
      · exact .inl q
      · exact .inr (by simp [q])
    · rcases List.mem_cons.1 h with q | q
      · exact .inr (by simp [q])
      · rcases in_setF q with z | z
        · exact .inl z
        · exact .inr (by simp [z])
theorem in_app {l : List Sx} {g : Cg} {y : Sx} (h : y ∈ appL l g) : y ∈ l ∨ y = g.s := by
  unfold appL at h
  split at h
  · exact .inl (mem_gone.1 h).1
  · unfold comeL at h
    split at h
    · rcases in_setF h with q | q
      · exact .inr q
      · exact .inl q
    · rcases mem_ins.1 h with q | q
      · exact .inr q
      · exact .inl q
theorem in_fold {P : Sx → Prop} : ∀ (ch : List Cg) {l : List Sx}, (∀ y, y ∈ l → P y) → (∀ g, g ∈ ch → P g.s) → ∀ y, y ∈ ch.foldl appL l → P y
  | [], l, hl, _, y, hy => hl y hy
  | g :: ch, l, hl, hc, y, hy => by
    refine in_fold ch (l := appL l g) (fun z hz => ?_) (fun k hk => hc k (by simp [hk])) y hy
    rcases in_app hz with q | q
    · exact hl z q
    · subst q; exact hc g (by simp)
theorem FedF.szf {fl : List Prd} (h : FedF fl) : SzF fl := ⟨h.szn.1, fun p hp => (h.szn.2 p hp).1⟩
theorem FedF.szx {s : Sx} (h : FedF s.fl) : SzX s := ⟨h.szn.1, fun p hp => (h.szn.2 p hp).1⟩
theorem FedA.szx {l : List Sx} (h : FedA l) : ∀ s, s ∈ l → SzX s := fun s hs => (h s hs).szx
theorem FedA.szr {l : List Sx} (h : FedA l) : ∀ s, s ∈ l → SzR s := fun s hs => (h s hs).szn
theorem FedA.szs {l : List Sx} (h : FedA l) (hl : l.length ≤ 1000) : SzS l := ⟨hl, fun s hs => (h s hs).szf⟩
theorem FedA.fold {l : List Sx} (h : FedA l) {ch : List Cg} (hc : ∀ g, g ∈ ch → FedF g.s.fl) : FedA (ch.foldl appL l) := in_fold (P := fun s => FedF s.fl) ch h hc
theorem FedA.of {l : List Sx} (h : FedA l) (c : Int) : FedA (ofL l c) := fun s hs => h s (List.mem_filter.1 hs).1
end Go.Proofs.Ytooeiefgnhgbeaa

/-! Law SubsTells: the walk. -/
namespace Go.Proofs.Ytooeiefgnhgbeaa
open Go.Ab

section
variable {X : XTab}
/-- The end: each answer is the document's. -/
theorem st_end (hX : OnlyKnown X) {h : Heap} {t : T} {a b cv pv : AVal} {l m : List Sx} {ch : List Cg} {c1 c2 c3 nu : Int} (t9 : t 9 = a) (t10 : t 10 = b) (t11 : t 11 = cv) (t12 : t 12 = pv) (t13 : t 13 = I nu)
    (oa : Sl sxR h a l) (ob : Sl sxR h b m) (oc : Sl cgR h cv ch) (op : Sl intR h pv [c1, c2, c3]) (fa : FedA l) (fb : FedA m) (hl : l.length ≤ 19) (hm : m.length ≤ 19) (hc : ch.length ≤ 6) (fc : ∀ g, g ∈ ch → FedF g.s.fl) :
    Tells (fun m => J_precentorlaw11_SubsTells_2 Try.prog (acallX Try.prog X m) m (retK Try.prog [.tmp 6]) t h) fun r _ => r = .bool true := by
  refine Tells.prot fun Q' hQ => ?_
  have u4 := Try.underlying4
  have ff : FedA (ch.foldl appL l) := fa.fold fc
  have fl := foldl_len ch l
  simp [J_precentorlaw11_SubsTells_2, t9, t10, t11, t12, t13]
  refine Tells.cbE (subs_Right hX oa (by omega) fa.szr) ?_
  rintro _ h1 ⟨rfl, x1⟩
  try simp [t9]
  refine Tells.cbE (ref_RightSubs hX (oa.ext x1) (by omega) fa.szr) ?_
  rintro _ h2 ⟨rfl, x2⟩
  have X2 := x1.trans x2
  try simp [u4, t9, t10]
  refine Tells.cbE (subs_Same hX (oa.ext X2) (ob.ext X2) (by omega) fa.szx fb.szx) ?_
  rintro _ h3 ⟨rfl, x3⟩
  have X3 := X2.trans x3
  try simp [u4, t9, t10]
  refine Tells.cbE (ref_SameSubs hX (oa.ext X3) (ob.ext X3) (by omega) fa.szx fb.szx) ?_
  rintro _ h4 ⟨rfl, x4⟩
  have X4 := X3.trans x4
  try simp [u4, t9, t11]
  refine Tells.cbE (subs_Apply hX (oa.ext X4) (fa.szs (by omega)) (by omega) (oc.ext X4) (by omega) fun g hg => (fc g hg).szf) ?_
  rintro v5 h5 ⟨r5, x5⟩
  have X5 := X4.trans x5
  try simp [u4, t9, t11]
  refine Tells.cbE (ref_Apply hX (oa.ext X5) (by omega) (oc.ext X5) (by omega)) ?_
  rintro v6 h6 ⟨o6, x6⟩
  have X6 := X5.trans x6
  try simp
  refine Tells.cbE (ref_SameSubs hX (r5.sl.ext x6) o6 (by omega) ff.szx ff.szx) ?_
  rintro _ h7 ⟨rfl, x7⟩
  have X7 := X6.trans x7
  have op7 := op.ext X7
  obtain ⟨b1, p1, B1, q1, q2, q3⟩ := op7.atI (i := 0) (x := c1) rfl
  have q1 : ixsR 1 pv (I 0) = some (.ptr b1 p1) := by simpa using q1
  rw [sameL_self sameSx_self]
  simp [u4, t9, t12, q1, q2, q3]
  refine Tells.cbE (subs_Of hX (oa.ext X7) (fa.szs (by omega)) c1) ?_
  rintro v8 h8 ⟨r8, x8⟩
  have X8 := X7.trans x8
  obtain ⟨b2, p2, B2, k1, k2, k3⟩ := (op.ext X8).atI (i := 0) (x := c1) rfl
  have k1 : ixsR 1 pv (I 0) = some (.ptr b2 p2) := by simpa using k1
  cases q1.symm.trans k1
  simp [t9, t12, q1, k2, k3]
  refine Tells.cbE (ref_Of hX (oa.ext X8) (by omega) c1) ?_
  rintro v9 h9 ⟨o9, x9⟩
  have X9 := X8.trans x9
  have lo : (ofL l c1).length ≤ l.length := List.length_filter_le _ _
  try simp
  refine Tells.cbE (ref_SameSubs hX (r8.sl.ext x9) o9 (by omega) (fa.of c1).szx (fa.of c1).szx) ?_
  rintro _ h10 ⟨rfl, x10⟩
  have X10 := X9.trans x10
  obtain ⟨b3, p3, B3, m1, m2, m3⟩ := (op.ext X10).atI (i := 0) (x := c1) rfl
  have m1 : ixsR 1 pv (I 0) = some (.ptr b3 p3) := by simpa using m1
  cases q1.symm.trans m1
  rw [sameL_self sameSx_self]
  simp [u4, t9, t12, t13, q1, m2, m3]
  refine Tells.cbE (subs_Has hX (oa.ext X10) (by omega) c1 nu) ?_
  rintro _ h11 ⟨rfl, x11⟩
  have X11 := X10.trans x11
  obtain ⟨b4, p4, B4, n1, n2, n3⟩ := (op.ext X11).atI (i := 0) (x := c1) rfl
  have n1 : ixsR 1 pv (I 0) = some (.ptr b4 p4) := by simpa using n1
  cases q1.symm.trans n1
  simp [t9, t12, t13, q1, n2, n3]
  refine Tells.cbE (ref_Has hX (oa.ext X11) (by omega) c1 nu) ?_
  rintro _ h12 ⟨rfl, rfl⟩
  simp [u4]
  exact Tells.ok (hQ _ _ rfl)

theorem subsTells_ (hX : OnlyKnown X) (hk : X F_precentorlaw11_known [] = some (.bool true)) {h : Heap} {v1 v2 : AVal} {xs1 xs2 : List Int} (r1 : RawInts h v1 xs1) (r2 : RawInts h v2 xs2) (n : Int) (hn : In64 n) :
    Tells (fun m => acallX Try.prog X m F_precentorlaw11_SubsTells [v1, v2, I n] h) fun r _ => r = .bool true := by
  refine R_precentorlaw11_SubsTells _ _ _ (hX _ _ rfl) ?_
  refine Tells.prot fun Q' hQ => ?_
  unfold S_precentorlaw11_SubsTells
  simp [bldR, fillR, splice, r1.sl.known, r1.sl.cells]
  refine Tells.box rfl rfl fun h1 bf f1 x1 l1 => ?_
  have rr := r1.ext x1
  have fd : Feed h1 bf 0 := ⟨v1, 0, xs1, f1, by omega, by omega, rr.sl, rr.small, rr.old⟩
  simp [bldR, fillR, splice, r2.sl.known, r2.sl.cells]
  refine Tells.box rfl rfl fun h2 bg f2 x2 l2 => ?_
  have rr2 := (r2.ext x1).ext x2
  have gd2 : Feed h2 bg 0 := ⟨v2, 0, xs2, f2, by omega, by omega, rr2.sl, rr2.small, rr2.old⟩
  have ne : bg ≠ bf := by have := fd.lt; omega
  try simp
  refine Tells.bind (some11 hX (fd.e x2) (by omega) n) ?_
  rintro av h3 ⟨l, oa, hl, fa, x3, f3⟩
  have g3 := gd2.ext x3 (by simpa using ne)
  try simp
  refine Tells.bind (some11 hX g3 (by omega) n) ?_
  rintro bv h4 ⟨m, ob, hm, fb, x4, g4⟩
  have f4 := f3.ext x4 (by simpa using ne.symm)
  have oa4 := oa.ext x4
  try simp
  refine Tells.bind (Next hX 4 ⟨by decide, by decide⟩ f4 (by omega)) ?_
  rintro _ h5 ⟨u, rfl, _, _, _, x5, f5⟩
  have g5 := g4.ext x5 (by simpa using ne)
  have oa5 := oa4.ext x5
  have ob5 := ob.ext x5
  -- the rest, whatever b is
  have rest : ∀ (t : T) (g : Heap) (bv : AVal) (m : List Sx), t 2 = I n → t 7 = .ptr bf 0 → t 8 = .ptr bg 0 → t 9 = av → t 10 = bv → Sl sxR g av l → Sl sxR g bv m → m.length ≤ 19 → FedA m → Feed g bf 1400 → Feed g bg 1400 →
      Tells (fun m => J_precentorlaw11_SubsTells_0 Try.prog (acallX Try.prog X m) m (retK Try.prog [.tmp 6]) t g) Q' := by
    intro t g bv m t2 t7 t8 t9 t10 oa ob hm fb ff fg
    simp [J_precentorlaw11_SubsTells_0, t8]
    refine Tells.bind (changes11 hX fg (by omega)) ?_
    rintro cv g1 ⟨ch, oc, hc, fc, y1, fg1⟩
    have ff1 := ff.ext y1 (by simpa using ne.symm)
    try simp [t7]
    refine Tells.bind (Next hX 8 ⟨by decide, by decide⟩ ff1 (by omega)) ?_
    rintro _ g2 ⟨c1, rfl, _, _, _, y2, ff2⟩
    try simp [t7]
    refine Tells.bind (Next hX 8 ⟨by decide, by decide⟩ ff2 (by omega)) ?_
    rintro _ g3 ⟨c2, rfl, _, _, _, y3, ff3⟩
    try simp [t2]
    refine Tells.lit (r := intR) (xs := [c1, c2, n]) (css := [[I c1], [I c2], [I n]]) (by rfl) ⟨rfl, rfl, rfl, trivial⟩ (by rfl) (by rfl) (by simp [bslR, fillR, splice]) fun pv g4 gp y4 _ => ?_
    try simp [t7]
    refine Tells.bind (Next hX 6 ⟨by decide, by decide⟩ (ff3.e y4) (by omega)) ?_
    rintro _ g5 ⟨nu, rfl, _, _, _, y5, ff5⟩
    have m1 : ∀ b, b ∈ [bg] → b ∈ [bf, bg] := by simp
    have m2 : ∀ b, b ∈ [bf] → b ∈ [bf, bg] := by simp
    have Y5 : Ext [bf, bg] g1 g5 := (((y2.mono m2).trans (y3.mono m2)).trans (y4.mono (by simp))).trans (y5.mono m2)
    have Y05 := (y1.mono m1).trans Y5
    have oa5 := oa.ext Y05
    have ob5 := ob.ext Y05
    have oc5 := oc.ext Y5
    have op5 := gp.1.ext y5
    try simp [t9]
    refine Tells.bind (subs_Brokers hX oa5 (by omega) op5 (by simp)) ?_
    rintro s1 g6 ⟨os, y6⟩
    try simp [t9]
    refine Tells.bind (ref_Homes hX (oa5.ext y6) (by omega) (op5.ext y6) (by simp)) ?_
    rintro s2 g7 ⟨os2, y7⟩
    have Y7 := y6.trans y7
    try simp
    refine Tells.bind (known_X hk g7) ?_
    rintro _ g7 ⟨rfl, rfl⟩
    have os1 := os.ext y7
    have hq := (homesL_ok [c1, c2, n] l l.length (Nat.le_refl _)).2
    rw [List.take_length] at hq
    generalize hq2 : homesL [c1, c2, n] l = ql at *
    simp [os1.len, os2.len, J_precentorlaw11_SubsTells_1]
    refine Tells.bind (Tells.loop (fun k t g => g = g7 ∧ ∃ i : Nat, t 9 = av ∧ t 10 = bv ∧ t 11 = cv ∧ t 12 = pv ∧ t 13 = I nu ∧ t 14 = s1 ∧ t 15 = s2 ∧ t 16 = I i ∧ i + k = ql.length)
      (Q := fun p g => g = g7 ∧ p.1 = .exit 0 ∧ p.2 9 = av ∧ p.2 10 = bv ∧ p.2 11 = cv ∧ p.2 12 = pv ∧ p.2 13 = I nu) ?_ ql.length _ _ ⟨rfl, 0, by simp [t9], by simp [t10], by simp, by simp, by simp, by simp, by simp, by simp, by omega⟩) ?_
    · rintro k t g ⟨rfl, i, t9, t10, t11, t12, t13, t14, t15, t16, hi⟩
      refine Tells.prot fun Q2 hQ2 => ?_
      unfold L_precentorlaw11_SubsTells_3
      simp [t14, t16, os1.len]
      refine Tells.cb (fun hcc => ?_) (fun hcc => ?_)
      · simp at hcc
        obtain ⟨y, hy⟩ : ∃ y, ql[i]? = some y := ⟨_, List.getElem?_eq_getElem hcc⟩
        obtain ⟨b1, p1, B1, q1, q2, q3⟩ := os1.atI hy
        obtain ⟨b2, p2, B2, k1, k2, k3⟩ := os2.atI hy
        have w : IntKind.i64.wrap ((i : Int) + 1) = i + 1 := wrap_id (by omega) (by omega)
        simp [J_precentorlaw11_SubsTells_4, t14, t15, t16, q1, q2, q3, k1, k2, k3, J_precentorlaw11_SubsTells_5, w]
        exact Tells.ok (hQ2 _ _ (.inl ⟨rfl, k - 1, by omega, rfl, i + 1, by simp [t9], by simp [t10], by simp [t11], by simp [t12], by simp [t13], by simp [t14], by simp [t15], by simp, by omega⟩))
      · exact Tells.ok (hQ2 _ _ (.inr ⟨by simp, rfl, rfl, by simp [t9], by simp [t10], by simp [t11], by simp [t12], by simp [t13]⟩))
    · rintro ⟨ex, t⟩ g ⟨rfl, rfl, t9, t10, t11, t12, t13⟩
      try simp
      exact (st_end hX t9 t10 t11 t12 t13 (oa5.ext Y7) (ob5.ext Y7) (oc5.ext Y7) (op5.ext Y7) fa fb hl hm hc fc).mono fun r h' e => hQ r h' e
  by_cases hu : u = 0
  · subst hu
    try simp
    refine Tells.lit (r := sxR) (xs := []) (css := []) (by rfl) trivial (by rfl) (by rfl) (by rfl) fun v16 h6 g6 x6 _ => ?_
    try simp
    refine Tells.appN g6 (oa5.ext x6) (by rfl) (by simp; omega) (by decide) x6.next fun wv h7 g7 x7 y7 _ => ?_
    have fg6 := g5.e x6
    have ff6 := f5.e x6
    have nb : ∀ b, b ∈ v16.blks → h6.isM b = false := fun b hb => (g6.1.blk b hb).1
    refine rest _ h7 wv l (by simp) (by simp) (by simp) (by simp) (by simp) ((oa5.ext x6).ext x7) (by simpa using g7.1) hl fa ((ff6.ext x7 (fun q => by have := nb _ q; rw [ff6.m] at this; cases this)).mono (by omega)) ((fg6.ext x7 (fun q => by have := nb _ q; rw [fg6.m] at this; cases this)).mono (by omega))
  · simp [beq_eq_false_iff_ne.2 hu]
    exact rest _ h5 bv m (by simp) (by simp) (by simp) (by simp) (by simp) oa5 ob5 hm fb (f5.mono (by omega)) (g5.mono (by omega))
end
end Go.Proofs.Ytooeiefgnhgbeaa
