/-
  Law TrapPlays: both players do the same.
-/
import Derived.Test.YtepdlgcoehpnbaaPL5
set_option linter.unusedVariables false
set_option linter.unusedSimpArgs false
namespace Go.Proofs.Ytepdlgcoehpnbaa
open Go.Ab

theorem TLmono {V W : AVal → Heap → Prop} {body : Nat → T → Heap → Res (Ex × T)} {t : T} {h : Heap} {Q R : Ex × T → Heap → Prop} (k : TellsL V body t h Q) (f : ∀ a h, Q a h → R a h) (g : ∀ v h, V v h → W v h) : TellsL W body t h R :=
  fun c => TV.mono (k c) f g

section
variable {X : XTab} {xs : List (Int × Int)}

theorem rnd_ex {deep : Int} {a : Nat} {log : List Int} {w n : Int} (hd : 0 ≤ deep ∧ deep ≤ 5) (ha : a < 50) (hw : 0 ≤ w ∧ w ≤ 8) (hn : 0 ≤ n ∧ n ≤ 8)
    (ih : ∀ (a2 : Nat) (log2 : List Int) (deep2 : Int), a < a2 → a2 ≤ 50 → log2.length ≤ a2 → 0 ≤ deep2 ∧ deep2 ≤ 5 → ∃ out a' log', Both X xs deep2 a2 log2 out a' log') (hl : log.length ≤ a) :
    ∃ r a' log', Rnd X xs deep a log w n r a' log' ∧ a < a' ∧ a' ≤ 50 ∧ log'.length + a ≤ log.length + a' ∧ ∀ o, r = some o → OutOk o := by
  rcases (show w ≤ 2 ∨ w = 3 ∨ w = 4 ∨ w = 5 ∨ w = 6 ∨ w = 7 ∨ w = 8 by omega) with h | rfl | rfl | rfl | rfl | rfl | rfl
  · exact ⟨_, _, _, .mark ⟨hw.1, h⟩, by omega, by omega, by simp; omega, by simp⟩
  · by_cases h5 : deep < 5
    · obtain ⟨o, a1, l1, B⟩ := ih (a + 1) log (deep + 1) (by omega) (by omega) (by omega) ⟨by omega, by omega⟩
      have b1 := B.le
      have b2 := B.len
      have b3 := B.top
      rcases B.ok with ⟨o1, o2⟩ | ⟨o1, o2⟩
      · exact ⟨_, _, _, .run3 h5 B o1 o2, by omega, by omega, by simp; omega, by simp⟩
      · exact ⟨_, _, _, .thr3 h5 B o1, by omega, by omega, by omega, fun o' e => by cases e; exact B.ok⟩
    · exact ⟨_, _, _, .deep3 h5, by omega, by omega, by omega, by simp⟩
  · by_cases h5 : deep < 5
    · obtain ⟨o, a1, l1, B⟩ := ih (a + 1) log (deep + 1) (by omega) (by omega) (by omega) ⟨by omega, by omega⟩
      have b1 := B.le
      have b2 := B.len
      have b3 := B.top
      by_cases h0 : o = 0
      · subst h0
        obtain ⟨o', a2, l2, B2⟩ := ih a1 l1 (deep + 1) (by omega) (by omega) (by omega) ⟨by omega, by omega⟩
        have c1 := B2.le
        have c2 := B2.len
        have c3 := B2.top
        by_cases h0' : o' = 0
        · subst h0'
          exact ⟨_, _, _, .all4 h5 B B2, by omega, by omega, by simp; omega, by simp⟩
        · rcases B2.ok with ⟨o1, o2⟩ | ⟨o1, o2⟩
          · exact ⟨_, _, _, .two4 h5 B B2 (by omega) o2, by omega, by omega, by simp; omega, by simp⟩
          · exact ⟨_, _, _, .thr4b h5 B B2 o1, by omega, by omega, by omega, fun o' e => by cases e; exact B2.ok⟩
      · rcases B.ok with ⟨o1, o2⟩ | ⟨o1, o2⟩
        · exact ⟨_, _, _, .one4 h5 B (by omega) o2, by omega, by omega, by simp; omega, by simp⟩
        · exact ⟨_, _, _, .thr4 h5 B o1, by omega, by omega, by omega, fun o' e => by cases e; exact B.ok⟩
    · exact ⟨_, _, _, .deep4 h5, by omega, by omega, by omega, by simp⟩
  · exact ⟨_, _, _, .end5, by omega, by omega, by omega, fun o e => by cases e; exact .inl ⟨by omega, by omega⟩⟩
  · by_cases h0 : n = 0
    · subst h0
      exact ⟨_, _, _, .stop6, by omega, by omega, by omega, by simp⟩
    · exact ⟨_, _, _, .err6 (by omega), by omega, by omega, by omega, fun o e => by cases e; exact .inl ⟨by omega, by omega⟩⟩
  · rcases (show n.tmod 2 = 0 ∨ n.tmod 2 = 1 by rw [Int.tmod_eq_emod_of_nonneg hn.1]; omega) with h | h
    · exact ⟨_, _, _, .need7 h, by omega, by omega, by omega, by simp⟩
    · exact ⟨_, _, _, .err7 h, by omega, by omega, by omega, fun o e => by cases e; exact .inl ⟨by omega, by omega⟩⟩
  · exact ⟨_, _, _, .thr8, by omega, by omega, by omega, fun o e => by cases e; exact .inr ⟨by omega, by omega⟩⟩

/-- The same of the loops. -/
structure BothL (X : XTab) (xs : List (Int × Int)) (deep : Int) (a : Nat) (log : List Int) (out : Int) (a' : Nat) (log' : List Int) : Prop where
  w : WantL X xs deep a log out a' log'
  r : RunL X xs deep a log out a' log'
  ok : OutOk out
  le : a ≤ a'
  len : log'.length + a ≤ log.length + a'
  top : a' ≤ 50

theorem BothL.fn (hX : OnlyKnown X) {deep : Int} {a a' : Nat} {log log' : List Int} {out : Int} (b : BothL X xs deep a log out a' log') : Both X xs deep a log out a' log' := ⟨b.w.fn hX, b.r.fn hX, b.ok, b.le, b.len, b.top⟩

theorem both_done (hX : OnlyKnown X) {deep : Int} {a : Nat} {log : List Int} (ha : a ≤ 50) (hn : ¬ (a < xs.length ∧ a < 50)) : BothL X xs deep a log 0 a log := by
  have hf : (decide (a < xs.length) && decide (a < 50)) = false := by
    by_cases k : a < xs.length
    · have : ¬ a < 50 := fun q => hn ⟨k, q⟩
      simp [this]
    · simp [k]
  refine ⟨?_, ?_, .inl ⟨by omega, by omega⟩, Nat.le_refl _, by omega, ha⟩
  · intro h1 p lv h s t P t0 t1
    refine TL.roll (TV.of ?_)
    refine Tells.prot fun Q' hQ => ?_
    unfold L_precentorlaw1_player_want_1
    simp [t0]
    refine Tells.bind (more_tells hX P) ?_
    rintro _ g ⟨rfl, rfl⟩
    simp only [hf]
    simp
    exact Tells.ok (hQ _ _ (.inr ⟨by simp, ⟨s, P, .refl, fun b q => .inl q⟩, .inl ⟨rfl, rfl⟩⟩))
  · intro h1 p lv h s t pb db P t2 t3 opb odb hpb hdb
    refine TL.roll (TV.of ?_)
    refine Tells.prot fun Q' hQ => ?_
    unfold L_precentorlaw1_player_run_0
    simp [t2, Heap.cell, opb.1]
    refine Tells.bind (more_tells hX P) ?_
    rintro _ g ⟨rfl, rfl⟩
    simp only [hf]
    simp
    exact Tells.ok (hQ _ _ (.inr ⟨by simp, .inl rfl, rfl, ⟨s, P, .refl, fun b q => .inl q⟩⟩))

theorem both_ex (hX : OnlyKnown X) : ∀ (k a : Nat) (log : List Int) (deep : Int), 50 - a ≤ k → a ≤ 50 → log.length ≤ a → 0 ≤ deep ∧ deep ≤ 5 → ∃ out a' log', BothL X xs deep a log out a' log' := by
  intro k
  induction k with
  | zero =>
    intro a log deep hk ha hl hd
    exact ⟨_, _, _, both_done hX ha (by omega)⟩
  | succ k ih =>
    intro a log deep hk ha hl hd
    by_cases hc : a < xs.length ∧ a < 50
    · have hx : xs[a]? = some (xs[a]'hc.1) := by simp [hc.1]
      have w1 := pick_lo (xs[a]'hc.1).1 9
      have w2 := pick_hi (xs[a]'hc.1).1 9 (by omega)
      have n1 := pick_lo (xs[a]'hc.1).2 9
      have n2 := pick_hi (xs[a]'hc.1).2 9 (by omega)
      obtain ⟨r, a', log', R, q1, q2, q3, q4⟩ := rnd_ex (X := X) (xs := xs) (w := pick (xs[a]'hc.1).1 9) (n := pick (xs[a]'hc.1).2 9) hd hc.2 ⟨w1, by omega⟩ ⟨n1, by omega⟩ (fun a2 log2 deep2 h1 h2 h3 h4 => by
        obtain ⟨o, b1, b2, b3⟩ := ih a2 log2 deep2 (by omega) h2 h3 h4
        exact ⟨o, b1, b2, b3.fn hX⟩) hl
      cases r with
      | some o =>
        refine ⟨o, a', log', ?_, ?_, q4 o rfl, by omega, q3, q2⟩
        · intro h1 p lv h s t P t0 t1
          refine TL.roll (TV.of (Tells.mono (want_rnd hX hd hx hc.2 hl ⟨n1, by omega⟩ rfl rfl R P t0 t1) ?_))
          rintro rr g ⟨A, k1, k2⟩
          exact .inr ⟨by rw [k1]; simp, A, .inr ⟨k1, k2⟩⟩
        · intro h1 p lv h s t pb db P t2 t3 opb odb hpb hdb
          refine TL.roll (TV.mono (run_rnd hX hd hx hc.2 hl ⟨n1, by omega⟩ rfl rfl R P t2 t3 opb odb hpb hdb) ?_ ?_)
          · rintro rr g ⟨A, k1, k2⟩
            exact .inr ⟨by rw [k2]; simp, .inr k2, k1, A⟩
          · rintro v g ⟨⟨o', e, hv⟩, A⟩
            cases e
            exact ⟨hv, A⟩
      | none =>
        obtain ⟨o, a2, log2, b⟩ := ih a' log' deep (by omega) q2 (by omega) hd
        have b1 := b.le
        have b2 := b.len
        refine ⟨o, a2, log2, ?_, ?_, b.ok, by omega, by omega, b.top⟩
        · intro h1 p lv h s t P t0 t1
          refine TL.roll (TV.of (Tells.mono (want_rnd hX hd hx hc.2 hl ⟨n1, by omega⟩ rfl rfl R P t0 t1) ?_))
          rintro rr g ⟨⟨s', P', x', z'⟩, k1, k2, k3⟩
          exact .inl ⟨k1, TLmono (b.w h1 p lv g s' rr.2 P' k2 k3) (fun r2 g2 q => ⟨Aft.thn x' z' q.1, q.2⟩) fun _ _ q => q⟩
        · intro h1 p lv h s t pb db P t2 t3 opb odb hpb hdb
          refine TL.roll (TV.mono (run_rnd hX hd hx hc.2 hl ⟨n1, by omega⟩ rfl rfl R P t2 t3 opb odb hpb hdb) ?_ ?_)
          · rintro rr g ⟨⟨s', P', x', z'⟩, k1, k2, k3⟩
            have off : ∀ {b : Nat} {cs : List AVal}, Ob h b cs → b ≠ p → b ∉ p :: s.blks := fun ob hb q => by
              rcases List.mem_cons.1 q with q | q
              · exact hb q
              · exact P.g.1.ob ob q
            exact .inl ⟨k1, TLmono (b.r h1 p lv g s' rr.2 pb db P' k2 k3 (opb.ext x' (off opb hpb)) (odb.ext x' (off odb hdb)) hpb hdb) (fun r2 g2 q => ⟨q.1, q.2.1, Aft.thn x' z' q.2.2⟩) fun v g2 q => ⟨q.1, Aft.thn x' z' q.2⟩⟩
          · rintro v g ⟨⟨o', e, hv⟩, A⟩
            cases e
    · exact ⟨_, _, _, both_done hX ha hc⟩
end
end Go.Proofs.Ytepdlgcoehpnbaa
