/-
  Law TrapCounts: the walk.
-/
import Derived.Test.YtepdlgcoehpnbaaRun1
import Derived.Test.YtepdlgcoehpnbaaKnown0
import Derived.Test.YtepdlgcoehpnbaaRow0
set_option linter.unusedVariables false
set_option linter.unusedSimpArgs false
namespace Go.Proofs.Ytepdlgcoehpnbaa
open Go.Ab

/-- The first that is above 0, as the law keeps it. -/
def First (fi e : Int) (ks : List Int) : Prop := (fi = -1 ∧ e = 0 ∧ ∀ (j : Nat) (k : Int), ks[j]? = some k → k ≤ 0) ∨ ∃ p : Nat, fi = p ∧ ks[p]? = some e ∧ 0 < e ∧ ∀ (j : Nat) (k : Int), j < p → ks[j]? = some k → k ≤ 0

theorem First.more {fi e k : Int} {ks : List Int} (f : First fi e ks) : (0 < k → fi < 0 → First ks.length k (ks ++ [k])) ∧ (¬ (0 < k ∧ fi < 0) → First fi e (ks ++ [k])) := by
  have at_ : ∀ {j : Nat} {x : Int}, (ks ++ [k])[j]? = some x → ks[j]? = some x ∨ j = ks.length ∧ x = k := by
    intro j x hx
    rcases Nat.lt_or_ge j ks.length with q | q
    · rw [List.getElem?_append_left q] at hx; exact .inl hx
    · rw [List.getElem?_append_right q] at hx
      have : j - ks.length = 0 := by
        rcases Nat.eq_zero_or_pos (j - ks.length) with z | z
        · exact z
        · rw [List.getElem?_eq_none (by simp; omega)] at hx; cases hx
      rw [this] at hx
      simp at hx
      exact .inr ⟨by omega, hx.symm⟩
  constructor
  · intro hk hf
    rcases f with ⟨rfl, rfl, f3⟩ | ⟨p, rfl, _⟩
    · refine .inr ⟨ks.length, rfl, by simp, hk, fun j x hj hx => ?_⟩
      rcases at_ hx with q | ⟨q, _⟩
      · exact f3 j x q
      · omega
    · omega
  · intro hn
    rcases f with ⟨rfl, rfl, f3⟩ | ⟨p, rfl, f2, f3, f4⟩
    · refine .inl ⟨rfl, rfl, fun j x hx => ?_⟩
      rcases at_ hx with q | ⟨_, rfl⟩
      · exact f3 j x q
      · rcases Int.lt_or_le 0 x with z | z
        · exact absurd ⟨z, by omega⟩ hn
        · exact z
    · have hp : p < ks.length := (List.getElem?_eq_some_iff.1 f2).1
      refine .inr ⟨p, rfl, by rw [List.getElem?_append_left hp]; exact f2, f3, fun j x hj hx => ?_⟩
      rcases at_ hx with q | ⟨q, _⟩
      · exact f4 j x hj q
      · omega

section
variable {X : XTab}

structure CInv (h1 : Heap) (C : Nat) (v : AVal) (xs : List Int) (i : Nat) (t : T) (g : Heap) (kbs : List Nat) (ks : List Int) (fi e : Int) : Prop where
  t0 : t 0 = v
  t4 : t 4 = .ptr C 0
  t5 : t 5 = I fi
  t6 : t 6 = I e
  t7 : t 7 = I i
  row : Gl (fnR C) h1 g (t 3) kbs
  nb : kbs.length = i
  nk : ks.length = i
  ob : ∀ (j : Nat) (kb : Nat) (k : Int), kbs[j]? = some kb → ks[j]? = some k → Ob g kb [I k] ∧ kb ≠ C ∧ -100 ≤ k ∧ k ≤ 100
  oc : Ob g C [I 0]
  raw : RawInts g v xs
  x : Ext [] h1 g
  f : First fi e ks

theorem trapCounts_ (hX : OnlyKnown X) (hk : X F_precentorlaw1_known [] = some (.bool true)) {h : Heap} {v : AVal} {xs : List Int} (r : RawInts h v xs) : Tells (fun m => acallX Try.prog X m F_precentorlaw1_TrapCounts [v] h) fun a _ => a = .bool true := by
  refine R_precentorlaw1_TrapCounts _ (hX _ _ rfl) ?_
  refine Tells.prot fun Q' hQ => ?_
  unfold S_precentorlaw1_TrapCounts
  simp
  refine Tells.newSt (n := 1) (by rfl) (by rfl) (by rfl) (by rfl) fun h1 C oC x1 hC => ?_
  have r1 := r.ext x1
  try simp
  refine Tells.bind (Tells.loop (fun n t g => ∃ (i : Nat) (kbs : List Nat) (ks : List Int) (fi e : Int), CInv h1 C v xs i t g kbs ks fi e ∧ i + n = min xs.length 20)
    (Q := fun p g => p.1 = .exit 0 ∧ ∃ (i : Nat) (kbs : List Nat) (ks : List Int) (fi e : Int), CInv h1 C v xs i p.2 g kbs ks fi e ∧ i ≤ 20) ?_ (min xs.length 20) _ _ ?_) ?_
  · rintro n t g ⟨i, kbs, ks, fi, e, I1, hi⟩
    refine Tells.prot fun Q2 hQ2 => ?_
    unfold L_precentorlaw1_TrapCounts_2
    have hlen := I1.raw.sl.len
    by_cases hc : i < xs.length ∧ i < 20
    · have c1 : (decide ((i : Int) < (xs.length : Int))) = true := by simp; exact hc.1
      have c2 : (decide ((i : Int) < 20)) = true := by simp; omega
      simp [I1.t0, I1.t7, hlen, c1, c2, hc.1]
      unfold J_precentorlaw1_TrapCounts_3
      obtain ⟨b, p, B, q1, q2, q3⟩ := I1.raw.sl.atI (i := i) (x := xs[i]'hc.1) (by simp [hc.1])
      simp [I1.t0, I1.t7, q1, Heap.cell, q2, q3]
      refine Tells.bind (Pick hX _ 12 (by constructor <;> omega) _) ?_
      rintro _ g ⟨rfl, rfl⟩
      have p1 := pick_lo (xs[i]'hc.1) 12
      have p2 := pick_hi (xs[i]'hc.1) 12 (by omega)
      have hw : IntKind.i64.wrap (pick (xs[i]'hc.1) 12 - 6) = pick (xs[i]'hc.1) 12 - 6 := wrap_id (by omega) (by omega)
      generalize hkk : pick (xs[i]'hc.1) 12 - 6 = k at hw
      simp [hkk, hw]
      have tail : ∀ {t' : T} {g2 : Heap} {kb : Nat} {fi' e' : Int}, t' 0 = v → t' 3 = t 3 → t' 4 = .ptr C 0 → t' 5 = I fi' → t' 6 = I e' → t' 7 = I i → t' 8 = .ptr kb 0 → Ob g2 kb [I k] → g.next ≤ kb → Ext [] g g2 → First fi' e' (ks ++ [k]) →
          Tells (fun m => J_precentorlaw1_TrapCounts_5 Try.prog (acallX Try.prog X m) m (blkK 1 (sqK (J_precentorlaw1_TrapCounts_4 Try.prog (acallX Try.prog X m) m okK) okK)) t' g2) Q2 := by
        intro t' g2 kb fi' e' u0 u3 u4 u5 u6 u7 u8 ok hkb xg f'
        unfold J_precentorlaw1_TrapCounts_5
        have row2 := I1.row.e xg
        simp [u3, u4, u8]
        refine Tells.app1 (r := fnR C) (h0 := h1) (x := kb) row2 (by rfl) (by rfl) (by rfl) (by rfl) (by rfl) (by have := I1.nb; omega) (by decide) (by have := I1.x.next; have := xg.next; omega) ?_
        intro s' g3 g1' x3 x4 z3
        have hw2 : IntKind.i64.wrap ((i : Int) + 1) = ((i + 1 : Nat) : Int) := by rw [wrap_id (by omega) (by omega)]; omega
        simp [J_precentorlaw1_TrapCounts_4, u7]
        have x5 : Ext [] h1 g3 := x4 _ (I1.x.trans xg)
        have keep : ∀ {b : Nat} {cs : List AVal}, Ob g2 b cs → Ob g3 b cs := fun o => o.ext x3 (row2.1.ob o)
        have hkC : kb ≠ C := by
          have := I1.oc.lt
          omega
        refine Tells.ok (hQ2 _ _ (.inl ⟨rfl, n - 1, by omega, i + 1, kbs ++ [kb], ks ++ [k], fi', e', ⟨by simp [u0], by simp [u4], by simp [u5], by simp [u6], by simp [hw2], by simpa using g1', by simp [I1.nb], by simp [I1.nk], ?_, keep (I1.oc.e xg), (I1.raw.ext xg).ext x3, x5, f'⟩, by omega⟩))
        intro j kb' k' hj hk'
        rcases Nat.lt_or_ge j i with q | q
        · rw [List.getElem?_append_left (by rw [I1.nb]; exact q)] at hj
          rw [List.getElem?_append_left (by rw [I1.nk]; exact q)] at hk'
          obtain ⟨a1, a2⟩ := I1.ob j kb' k' hj hk'
          exact ⟨keep (a1.e xg), a2⟩
        · have hji : j = i := by
            have := (List.getElem?_eq_some_iff.1 hj).1
            simp [I1.nb] at this
            omega
          subst hji
          rw [List.getElem?_append_right (by rw [I1.nb]; exact Nat.le_refl _), I1.nb] at hj
          rw [List.getElem?_append_right (by rw [I1.nk]; exact Nat.le_refl _), I1.nk] at hk'
          simp at hj hk'
          subst hj; subst hk'
          exact ⟨keep ok, hkC, by omega, by omega⟩
      refine Tells.newSt (n := 1) (by rfl) (by rfl) (by rfl) (by rfl) fun g2 kb ok xg hkb => ?_
      obtain ⟨m1, m2⟩ := I1.f.more (k := k)
      simp [Heap.cell, ok.1]
      by_cases hp : 0 < k
      · simp [hp, I1.t5]
        by_cases hf : fi < 0
        · simp [hf, ok.1]
          have mm := m1 hp hf
          rw [I1.nk] at mm
          refine tail (fi' := (i : Int)) (e' := k) ?_ ?_ ?_ ?_ ?_ ?_ ?_ ok hkb xg mm
          all_goals simp [I1.t0, I1.t4, I1.t7]
        · simp [hf]
          exact tail (by simp [I1.t0]) (by simp) (by simp [I1.t4]) (by simp [I1.t5]) (by simp [I1.t6]) (by simp [I1.t7]) (by simp) ok hkb xg (m2 fun q => hf q.2)
      · simp [hp]
        exact tail (by simp [I1.t0]) (by simp) (by simp [I1.t4]) (by simp [I1.t5]) (by simp [I1.t6]) (by simp [I1.t7]) (by simp) ok hkb xg (m2 fun q => hp q.1)
    · by_cases hl : i < xs.length
      · have h20 : ¬ i < 20 := fun q => hc ⟨hl, q⟩
        have c1 : (decide ((i : Int) < (xs.length : Int))) = true := by simp; exact hl
        have c2 : (decide ((i : Int) < 20)) = false := by simp; omega
        simp [I1.t0, I1.t7, hlen, c1, c2, hl]
        exact Tells.ok (hQ2 _ _ (.inr ⟨by simp, rfl, i, kbs, ks, fi, e, ⟨by simp [I1.t0], by simp [I1.t4], by simp [I1.t5], by simp [I1.t6], by simp [I1.t7], by simpa using I1.row, I1.nb, I1.nk, I1.ob, I1.oc, I1.raw, I1.x, I1.f⟩, by omega⟩))
      · have c1 : (decide ((i : Int) < (xs.length : Int))) = false := by simp; omega
        simp [I1.t0, I1.t7, hlen, c1, hl]
        exact Tells.ok (hQ2 _ _ (.inr ⟨by simp, rfl, i, kbs, ks, fi, e, ⟨by simp [I1.t0], by simp [I1.t4], by simp [I1.t5], by simp [I1.t6], by simp [I1.t7], by simpa using I1.row, I1.nb, I1.nk, I1.ob, I1.oc, I1.raw, I1.x, I1.f⟩, by omega⟩))
  · exact ⟨0, [], [], -1, 0, ⟨by simp, by simp, by simp, by simp, by simp, by simpa using Gl.nil, rfl, rfl, fun j kb k q => by simp at q, oC, r1, .refl, .inl ⟨rfl, rfl, fun j k q => by simp at q⟩⟩, by omega⟩
  · rintro ⟨ex, t⟩ g ⟨rfl, i, kbs, ks, fi, e, I1, hi⟩
    simp only at I1
    have fin : ∀ {t' : T} {n : Int}, t' 3 = t 3 → t' 4 = .ptr C 0 → t' 5 = I n → t' 6 = I e → ((n = ks.length ∧ e = 0 ∧ ∀ (j : Nat) (k : Int), ks[j]? = some k → k ≤ 0) ∨ ∃ p : Nat, n = p ∧ ks[p]? = some e ∧ 0 < e ∧ ∀ (j : Nat) (k : Int), j < p → ks[j]? = some k → k ≤ 0) →
        Tells (fun m => J_precentorlaw1_TrapCounts_1 Try.prog (acallX Try.prog X m) m (retK Try.prog [.tmp 2]) t' g) Q' := by
      intro t' n u3 u4 u5 u6 hn
      unfold J_precentorlaw1_TrapCounts_1
      simp [u3, u4, u5, u6]
      refine Tells.bind (each_tells hX I1.oc I1.row.1 (by rw [I1.nb, I1.nk]) (by have := I1.nk; omega) I1.ob) ?_
      rintro _ g2 ⟨n2, e2, rfl, x2, q⟩
      simp
      refine Tells.bind (known_X hk _) ?_
      rintro _ g3 ⟨rfl, rfl⟩
      have hlen : lenL (t 3) = some (I ks.length) := by rw [(I1.row.1).len, I1.nb, I1.nk]
      have key : n2 = n ∧ e2 = e ∧ ∃ c : Int, Ob g3 C [I c] ∧ c = (if IntKind.i64.wrap (n + 1) < (ks.length : Int) then IntKind.i64.wrap (n + 1) else (ks.length : Int)) := by
        have h20 := I1.nk
        rcases hn with ⟨rfl, rfl, hj⟩ | ⟨p, rfl, hp, hp0, hj⟩
        · rcases q with ⟨rfl, rfl, _, oc⟩ | ⟨i', rfl, hi', h0, _, oc⟩
          · rw [wrap_id (n := (ks.length : Int) + 1) (by omega) (by omega)]
            exact ⟨rfl, rfl, _, oc, by rw [if_neg (by omega)]⟩
          · have := hj _ _ hi'
            omega
        · rcases q with ⟨rfl, rfl, hall, oc⟩ | ⟨i', rfl, hi', h0, hall, oc⟩
          · have := hall _ _ hp
            omega
          · have hlt := (List.getElem?_eq_some_iff.1 hp).1
            have : i' = p := by
              rcases Nat.lt_trichotomy i' p with z | z | z
              · have := hj _ _ z hi'; omega
              · exact z
              · have := hall _ _ z hp; omega
            subst this
            rw [hp] at hi'
            cases hi'
            rw [wrap_id (n := (i' : Int) + 1) (by omega) (by omega)]
            refine ⟨rfl, rfl, _, oc, ?_⟩
            split <;> omega
      obtain ⟨rfl, rfl, c, oc, hc⟩ := key
      simp [Heap.cell, oc.1, hlen, ← hc]
      exact Tells.ok (hQ _ _ rfl)
    unfold lpK blkK
    simp [J_precentorlaw1_TrapCounts_0, I1.t5, I1.row.1.len]
    rcases I1.f with ⟨rfl, rfl, hj⟩ | ⟨p, rfl, hp, hp0, hj⟩
    · simp
      refine fin (n := (ks.length : Int)) ?_ ?_ ?_ ?_ (.inl ⟨rfl, rfl, hj⟩)
      all_goals simp [I1.t4, I1.t6, I1.nb, I1.nk]
    · have : ¬ ((p : Int) < 0) := by omega
      simp [this]
      refine fin (n := (p : Int)) ?_ ?_ ?_ ?_ (.inr ⟨p, rfl, hp, hp0, hj⟩)
      all_goals simp [I1.t4, I1.t6, I1.t5]
end
end Go.Proofs.Ytepdlgcoehpnbaa
