/-
  The document's own clock: what Put and NewClock tell.
-/
import Derived.Test.YtodccjbgomimjaaRef15b
set_option linter.unusedVariables false
set_option linter.unusedSimpArgs false
namespace Go.Proofs.Ytodccjbgomimjaa
open Go.Ab

section
variable {X : XTab}

theorem tw_at {xs : List Int} {i : Nat} {x : Int} (h : xs[i]? = some x) (f : Int → Bool) : (xs.drop i).takeWhile f = if f x = true then x :: (xs.drop (i + 1)).takeWhile f else [] := by
  have hlt := (List.getElem?_eq_some_iff.1 h).1
  rw [List.drop_eq_getElem_cons hlt, (List.getElem?_eq_some_iff.1 h).2, List.takeWhile_cons]

theorem ref_Put (hX : OnlyKnown X) {h : Heap} {v : AVal} {xs : List Int} (o : Sl intR h v xs) (hl : xs.length < 2 ^ 30) (p : Int) :
    Tells (fun q => acallX Try.prog X q F_precentorref9_Put [v, I p] h) fun a h' => Sl intR h' a (putL xs p) ∧ Ext [] h h' := by
  refine R_precentorref9_Put _ _ (hX _ _ rfl) ?_
  refine Tells.prot fun Q' hQ => ?_
  unfold S_precentorref9_Put
  simp
  refine Tells.bind (ref_In hX o (by omega) p) ?_
  rintro _ h ⟨rfl, rfl⟩
  cases hin : xs.any (· == p) with
  | true =>
    simp
    refine Tells.ok (hQ _ _ ⟨?_, .refl⟩)
    unfold putL
    rw [if_pos hin]
    exact o
  | false =>
    have hp : putL xs p = xs.takeWhile (fun x => decide (x < p)) ++ [p] ++ xs.filter (fun x => decide (p < x)) := by
      unfold putL
      rw [if_neg (by rw [hin]; simp)]
    simp [J_precentorref9_Put_0]
    refine Tells.bind (Tells.loop (fun n t g => ∃ i : Nat, t 0 = v ∧ t 1 = I p ∧ t 6 = I i ∧ i + n = xs.length ∧ Gl intR h g (t 5) (xs.take i) ∧ Ext [] h g ∧ xs.takeWhile (fun x => decide (x < p)) = xs.take i ++ (xs.drop i).takeWhile (fun x => decide (x < p)))
      (Q := fun r g => r.1 = .exit 0 ∧ r.2 0 = v ∧ r.2 1 = I p ∧ Gl intR h g (r.2 5) (xs.takeWhile (fun x => decide (x < p))) ∧ Ext [] h g) ?_ xs.length _ _ ?_) ?_
    · rintro n t g ⟨i, t0, t1, t6, hi, go, x, htw⟩
      refine Tells.prot fun Q2 hQ2 => ?_
      have og := o.ext x
      unfold L_precentorref9_Put_6
      simp [t6, t0, og.len]
      by_cases hc : i < xs.length
      · obtain ⟨y, hdi⟩ : ∃ d, xs[i]? = some d := ⟨_, List.getElem?_eq_getElem hc⟩
        obtain ⟨b, pp, B, q1, q2, q3⟩ := og.atI hdi
        have w : IntKind.i64.wrap ((i : Int) + 1) = i + 1 := wrap_id (by omega) (by omega)
        rw [tw_at hdi] at htw
        by_cases hy : y < p
        · rw [if_pos (by simpa using hy)] at htw
          simp [hc, t0, t6, q1, q2, q3, t1, hy, J_precentorref9_Put_7]
          refine Tells.app1 go (by rfl) (by rfl) (show intR.rep g [I y] y from rfl) (by rfl) (by rfl) (by simp; omega) (by decide) x.next fun s6 h6 g6 x6 y6 z6 => ?_
          simp [J_precentorref9_Put_8, t6, w]
          have htk : xs.take (i + 1) = xs.take i ++ [y] := by rw [List.take_add_one, hdi]; rfl
          exact Tells.ok (hQ2 _ _ (.inl ⟨rfl, n - 1, by omega, i + 1, by simp [t0], by simp [t1], by simp, by omega, by rw [htk]; simpa using g6, y6 [] x, by rw [htw, htk]; simp⟩))
        · rw [if_neg (by simpa using hy)] at htw
          simp [hc, t0, t6, q1, q2, q3, t1, hy]
          exact Tells.ok (hQ2 _ _ (.inr ⟨by simp, rfl, by simp [t0], by simp [t1], by rw [htw]; simpa using go, x⟩))
      · simp [hc]
        rw [List.drop_eq_nil_of_le (by omega)] at htw
        exact Tells.ok (hQ2 _ _ (.inr ⟨by simp, rfl, by simp [t0], by simp [t1], by rw [htw]; simpa using go, x⟩))
    · exact ⟨0, by simp, by simp, by simp, by omega, by simpa using Gl.nil, .refl, by simp⟩
    · rintro ⟨ex, t⟩ g ⟨rfl, t0, t1, go, x⟩
      simp only at t0 t1 go
      have hle : (xs.takeWhile (fun x => decide (x < p))).length ≤ xs.length := (List.takeWhile_prefix _).length_le
      generalize xs.takeWhile (fun x => decide (x < p)) = ys at go hp hle
      simp [J_precentorref9_Put_1, t1]
      refine Tells.app1 go (by rfl) (by rfl) (show intR.rep g [I p] p from rfl) (by rfl) (by rfl) (by omega) (by decide) x.next fun s6 h6 g6 x6 y6 z6 => ?_
      have xg6 := y6 [] x
      try simp
      refine Tells.bind (Tells.loop (fun n t g => ∃ i : Nat, t 0 = v ∧ t 1 = I p ∧ t 7 = I i ∧ i + n = xs.length ∧ Gl intR h g (t 5) (ys ++ [p] ++ (xs.take i).filter (fun x => decide (p < x))) ∧ Ext [] h g)
        (Q := fun r g => r.1 = .exit 2 ∧ Gl intR h g (r.2 5) (ys ++ [p] ++ xs.filter (fun x => decide (p < x))) ∧ Ext [] h g) ?_ xs.length _ _ ?_) ?_
      · rintro n t g ⟨i, t0, t1, t7, hi, go, x⟩
        refine Tells.prot fun Q2 hQ2 => ?_
        have og := o.ext x
        unfold L_precentorref9_Put_3
        simp [t7, t0, og.len]
        refine Tells.cb (fun hc => ?_) (fun hc => ?_)
        · simp at hc
          obtain ⟨y, hdi⟩ : ∃ d, xs[i]? = some d := ⟨_, List.getElem?_eq_getElem hc⟩
          obtain ⟨b, pp, B, q1, q2, q3⟩ := og.atI hdi
          have w : IntKind.i64.wrap ((i : Int) + 1) = i + 1 := wrap_id (by omega) (by omega)
          have hfl : ((xs.take i).filter (fun x => decide (p < x))).length ≤ i := Nat.le_trans (List.length_filter_le _ _) (by simp; omega)
          have htk : (xs.take (i + 1)).filter (fun x => decide (p < x)) = (xs.take i).filter (fun x => decide (p < x)) ++ if p < y then [y] else [] := by
            rw [List.take_add_one, hdi]; simp [List.filter_append, List.filter_cons]
          by_cases hy : p < y
          · rw [if_pos hy] at htk
            simp [J_precentorref9_Put_4, t0, t7, q1, q2, q3, t1, hy]
            refine Tells.app1 go (by rfl) (by rfl) (show intR.rep g [I y] y from rfl) (by rfl) (by rfl) (by simp only [List.length_append, List.length_singleton]; omega) (by decide) x.next fun s8 h8 g8 x8 y8 z8 => ?_
            simp [J_precentorref9_Put_5, t7, w]
            exact Tells.ok (hQ2 _ _ (.inl ⟨rfl, n - 1, by omega, i + 1, by simp [t0], by simp [t1], by simp, by omega, by rw [htk]; simpa using g8, y8 [] x⟩))
          · rw [if_neg hy] at htk
            simp [J_precentorref9_Put_4, t0, t7, q1, q2, q3, t1, hy, J_precentorref9_Put_5, w]
            exact Tells.ok (hQ2 _ _ (.inl ⟨rfl, n - 1, by omega, i + 1, by simp [t0], by simp [t1], by simp, by omega, by rw [htk]; simpa using go, x⟩))
        · simp at hc
          rw [List.take_of_length_le (by omega)] at go
          exact Tells.ok (hQ2 _ _ (.inr ⟨by simp, rfl, by simpa using go, x⟩))
      · exact ⟨0, by simp [t0], by simp [t1], by simp, by omega, by simpa using g6, xg6⟩
      · rintro ⟨ex, t⟩ g ⟨rfl, go, x⟩
        simp only at go
        simp [J_precentorref9_Put_2]
        exact Tells.ok (hQ _ _ ⟨by rw [hp]; exact go.1, x⟩)

theorem Fresh.nums {s : Slots} (f : Fresh s) : s.map (·.2) = List.replicate s.length 1 := by
  rw [List.eq_replicate_iff]
  refine ⟨by simp, fun x hx => ?_⟩
  obtain ⟨y, hy, rfl⟩ := List.mem_map.1 hx
  exact f.one y hy

theorem ref_New (hX : OnlyKnown X) {h : Heap} {u : AVal} {ps : List Int} (ou : Sl intR h u ps) (hl : ps.length < 2 ^ 29) :
    Tells (fun q => acallX Try.prog X q F_precentorref9_NewClock [u] h) fun a h' => ∃ pv nv, a = .agg [pv, nv] ∧ Two h' pv nv (newS ps) ∧ Ext [] h h' := by
  refine R_precentorref9_NewClock _ (hX _ _ rfl) ?_
  refine Tells.prot fun Q' hQ => ?_
  unfold S_precentorref9_NewClock
  simp
  refine Tells.new fun h1 bv ov x1 l1 => ?_
  simp [bldR, fillR, splice]
  refine Tells.new fun h2 bc oc x2 l2 => ?_
  have n1 := x1.next
  have n2 := x2.next
  try simp
  refine Tells.stN oc (by rfl) (by rfl) (by rfl) (by rfl) fun h3 oc3 x3 => ?_
  have hvc : bv ≠ bc := by have := ov.lt; omega
  have x13 : Ext [] h h3 := (x1.trans x2).then x3 (by simp; omega)
  have ov3 := (ov.e x2).ext x3 (by simpa using hvc)
  try simp
  refine Tells.bind (Tells.loop (fun n t g => ∃ (i : Nat) (w : AVal), t 0 = u ∧ t 2 = .ptr bv 0 ∧ t 3 = .ptr bc 0 ∧ t 4 = I i ∧ i + n = ps.length ∧ Ob g bv [.nils, .nils] ∧ Ob g bc [w, .nils] ∧ Sl intR g w ((newS (ps.take i)).map (·.1)) ∧ Ext [] h g)
    (Q := fun p g => p.1 = .exit 0 ∧ ∃ w, p.2 2 = .ptr bv 0 ∧ p.2 3 = .ptr bc 0 ∧ Ob g bv [.nils, .nils] ∧ Ob g bc [w, .nils] ∧ Sl intR g w ((newS ps).map (·.1)) ∧ Ext [] h g) ?_ ps.length _ _ ?_) ?_
  · rintro n t g ⟨i, w, t0, t2, t3, t4, hi, av, ac, sl, x⟩
    refine Tells.prot fun Q2 hQ2 => ?_
    have og := ou.ext x
    unfold L_precentorref9_NewClock_5
    simp [t4, t0, og.len]
    refine Tells.cb (fun hc => ?_) (fun hc => ?_)
    · simp at hc
      obtain ⟨p, hdi⟩ : ∃ d, ps[i]? = some d := ⟨_, List.getElem?_eq_getElem hc⟩
      obtain ⟨b, pp, B, q1, q2, q3⟩ := og.atI hdi
      have wi : IntKind.i64.wrap ((i : Int) + 1) = i + 1 := wrap_id (by omega) (by omega)
      have hS := newS_succ hdi
      have lt1 := newS_length (ps.take i)
      have lt2 : (ps.take i).length ≤ i := by simp; omega
      by_cases hp : 0 ≤ p
      · simp [J_precentorref9_NewClock_6, t0, t4, q1, q2, q3, hp, t3, ac.1]
        refine Tells.cbE (ref_Put hX sl (by simp; omega) p) ?_
        rintro w6 h6 ⟨s6, x6⟩
        have ac6 := ac.e x6
        try simp [t3]
        refine Tells.st1E ac6 s6.cells s6.one (by simp) fun h7 o7 x7 => ?_
        simp [J_precentorref9_NewClock_7, t4, wi]
        refine Tells.ok (hQ2 _ _ (.inl ⟨rfl, n - 1, by omega, i + 1, w6, by simp [t0], by simp [t2], by simp [t3], by simp, by omega, (av.e x6).ext x7 (by simpa using hvc), by simpa [splice] using o7, ?_, (x.trans x6).then x7 (by simp; omega)⟩))
        rw [hS, ins_eq (by omega), ← putL_ins (newS_fresh _).up]
        exact s6.ext x7
      · simp [J_precentorref9_NewClock_6, t0, t4, q1, q2, q3, hp, J_precentorref9_NewClock_7, wi]
        refine Tells.ok (hQ2 _ _ (.inl ⟨rfl, n - 1, by omega, i + 1, w, by simp [t0], by simp [t2], by simp [t3], by simp, by omega, av, ac, ?_, x⟩))
        have : ins (newS (ps.take i)) p = newS (ps.take i) := by unfold ins; rw [if_pos (.inl (by omega))]
        rw [hS, this]
        exact sl
    · simp at hc
      rw [List.take_of_length_le (by omega)] at sl
      exact Tells.ok (hQ2 _ _ (.inr ⟨by simp, rfl, w, by simp [t2], by simp [t3], av, ac, sl, x⟩))
  · exact ⟨0, .nils, by simp, by simp, by simp, by simp, by omega, ov3, oc3, by simpa [newS] using Sl.nil, x13⟩
  · rintro ⟨ex, t⟩ g ⟨rfl, w, t2, t3, av, ac, sl, x⟩
    simp only at t2 t3
    have fr := newS_fresh ps
    have ln := newS_length ps
    generalize newS ps = s at sl fr ln hQ
    simp [J_precentorref9_NewClock_0]
    refine Tells.bind (Tells.loop (fun n t g => ∃ (i : Nat) (z : AVal), t 2 = .ptr bv 0 ∧ t 3 = .ptr bc 0 ∧ t 5 = I i ∧ i + n = s.length ∧ Ob g bv [.nils, .nils] ∧ Ob g bc [w, z] ∧ Gl intR h g z (List.replicate i 1) ∧ Ext [] h g ∧ Sl intR g w (s.map (·.1)))
      (Q := fun p g => p.1 = .exit 2 ∧ ∃ z, p.2 2 = .ptr bv 0 ∧ p.2 3 = .ptr bc 0 ∧ Ob g bv [.nils, .nils] ∧ Ob g bc [w, z] ∧ Sl intR g z (List.replicate s.length 1) ∧ Ext [] h g ∧ Sl intR g w (s.map (·.1))) ?_ s.length _ _ ?_) ?_
    · rintro n t g ⟨i, z, t2, t3, t5, hi, av, ac, go, x, sw⟩
      refine Tells.prot fun Q2 hQ2 => ?_
      have wi : IntKind.i64.wrap ((i : Int) + 1) = i + 1 := wrap_id (by omega) (by omega)
      unfold L_precentorref9_NewClock_2
      simp [t5, t3, ac.1, sw.len]
      refine Tells.cb (fun hc => ?_) (fun hc => ?_)
      · simp at hc
        simp [J_precentorref9_NewClock_3, t3, ac.1]
        refine Tells.app1 go (by rfl) (by rfl) (show intR.rep g [I 1] 1 from rfl) (by rfl) (by rfl) (by simp; omega) (by decide) x.next fun s6 h6 g6 x6 y6 z6 => ?_
        have xg6 : Ext [] h h6 := y6 [] x
        have ac6 := ac.ext x6 (go.1.ob ac)
        have av6 := av.ext x6 (go.1.ob av)
        try simp [t3]
        refine Tells.st1 ac6 g6.1.cells g6.1.one (by simp) fun h7 o7 x7 => ?_
        simp [J_precentorref9_NewClock_4, t5, wi]
        refine Tells.ok (hQ2 _ _ (.inl ⟨rfl, n - 1, by omega, i + 1, s6, by simp [t2], by simp [t3], by simp, by omega, av6.ext x7 (by simpa using hvc), by simpa [splice] using o7, ?_, xg6.then x7 (by simp; omega), (sw.ext x6).ext x7⟩))
        rw [List.replicate_succ']
        exact g6.ext x7 (fun b hb q => by simp at q; subst q; exact g6.1.ob ac6 hb)
      · simp at hc
        have : i = s.length := by omega
        subst this
        exact Tells.ok (hQ2 _ _ (.inr ⟨by simp, rfl, z, by simp [t2], by simp [t3], av, ac, go.1, x, sw⟩))
    · exact ⟨0, .nils, by simp [t2], by simp [t3], by simp, by omega, av, ac, by simpa using Gl.nil, x, sl⟩
    · rintro ⟨ex, t⟩ g ⟨rfl, z, t2, t3, av, ac, sz, x, sw⟩
      simp only at t2 t3
      simp [J_precentorref9_NewClock_1, t3, ac.1, t2]
      refine Tells.stN av (by rfl) (by rfl) (by simp [sw.one, sz.one]) (by rfl) fun h9 o9 x9 => ?_
      simp [t2, C_precentorref9_NewClock_0, o9.1]
      exact Tells.ok (hQ _ _ ⟨w, z, rfl, ⟨sw.ext x9, by rw [fr.nums]; exact sz.ext x9⟩, x.then x9 (by simp; omega)⟩)

end
end Go.Proofs.Ytodccjbgomimjaa
