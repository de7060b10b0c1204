/-
  Law ClockCounts: the walk.
-/
import Derived.Test.YtodccjbgomimjaaStamp0
import Derived.Test.YtodccjbgomimjaaRow0
import Derived.Test.YtodccjbgomimjaaSprecentorlaw15
set_option linter.unusedVariables false
set_option linter.unusedSimpArgs false
namespace Go.Proofs.Ytodccjbgomimjaa
open Go.Ab

section
variable {X : XTab}

theorem known_X {k : FuncId} (hk : X k [] = some (.bool true)) (h : Heap) : Tells (fun q => acallX Try.prog X q k [] h) fun v h' => v = .bool true ∧ h' = h := by
  refine Tells.later ?_
  simp only [acallX, hk]
  exact Tells.ok ⟨rfl, rfl⟩

theorem RawInts.feed {h : Heap} {v : AVal} {xs : List Int} {bf : Nat} (o : RawInts h v xs) (ob : Ob h bf [v, I 0]) : Feed h bf 0 := ⟨v, 0, xs, ob, by omega, by omega, o.sl, o.small⟩

/-- The number kept for a place. -/
def hv (hs : List Int) (p : Nat) : Int := (hs[p]?).getD 0
theorem hv_at {hs : List Int} {p : Nat} (h : p < hs.length) : hs[p]? = some (hv hs p) := by
  unfold hv; rw [List.getElem?_eq_getElem h]; rfl
theorem hv_set {hs : List Int} {p q : Nat} {x : Int} (h : p < hs.length) : hv (hs.set p x) q = if p = q then x else hv hs q := by
  unfold hv
  rw [List.getElem?_set]
  by_cases e : p = q
  · subst e; simp [h]
  · simp [e]
theorem ix6 {bh : Nat} {a : Int} (h : 0 ≤ a ∧ a < 6) : ixpR 6 1 (.ptr bh 0) (.int .i64 a) = some (.ptr bh a.toNat) := by
  simp only [ixpR]
  rw [if_pos (by omega)]
  simp

def own6 (p : Int) : Bool := p == 1 || p == 3 || p == 4

theorem countsInner (hX : OnlyKnown X) {h : Heap} {t : T} {bf bc bh K : Nat} {c : Slots} {hs : List Int} {i : AVal} (t3 : t 3 = .ptr bf 0) (t4 : t 4 = .ptr bc 0) (t5 : t 5 = .ptr bh 0) (t6 : t 6 = i) (t7 : t 7 = .nils) (t8 : t 8 = .bool true) (t9 : t 9 = I 0)
    (oh : Ob h bh (hs.map I)) (hl : hs.length = 6) (f : Feed h bf K) (hK : K + 20 < 2 ^ 62) (hc : ∀ p, has c p = own6 p) (hn : ∀ p : Nat, p < 6 → has c p = true → nxt c p = hv hs p + 1) (hb : ∀ p, 0 ≤ hv hs p ∧ hv hs p ≤ 200) (ne : bh ≠ bf) :
    Tells (fun m => loopN (L_precentorlaw15_ClockCounts_10 Try.prog (acallX Try.prog X m) m) m t h) fun p g => p.1 = .exit 2 ∧ p.2 3 = .ptr bf 0 ∧ p.2 4 = .ptr bc 0 ∧ p.2 5 = .ptr bh 0 ∧ p.2 6 = i ∧
      ∃ l, Sl pairR g (p.2 7) l ∧ l.length ≤ 6 ∧ p.2 8 = .bool (due c l) ∧ (∀ x, x ∈ l → 0 ≤ x.1 ∧ x.1 < 6) ∧ Ext [bf] h g ∧ Feed g bf (K + 18) := by
  refine Tells.loop (fun n t g => ∃ (a : Nat) (l : List (Int × Int)), t 3 = .ptr bf 0 ∧ t 4 = .ptr bc 0 ∧ t 5 = .ptr bh 0 ∧ t 6 = i ∧ t 8 = .bool (due c l) ∧ t 9 = I a ∧ a + n = 6 ∧ Gl pairR h g (t 7) l ∧ l.length ≤ a ∧ (∀ x, x ∈ l → 0 ≤ x.1 ∧ x.1 < a) ∧ Ext [bf] h g ∧ Feed g bf (K + 3 * a)) ?_ 6 _ _ ?_
  · rintro n t g ⟨a, l, t3, t4, t5, t6, t8, t9, hi, go, ll, hx, x, fg⟩
    refine Tells.prot fun Q2 hQ2 => ?_
    unfold L_precentorlaw15_ClockCounts_10
    simp [t9]
    refine Tells.cb (fun hc6 => ?_) (fun hc6 => ?_)
    · simp at hc6
      have ha : a < 6 := by omega
      have wa : IntKind.i64.wrap ((a : Int) + 1) = a + 1 := wrap_id (by omega) (by omega)
      simp [J_precentorlaw15_ClockCounts_11, t3]
      refine Tells.bind (Next hX 3 ⟨by omega, by omega⟩ fg (by omega)) ?_
      rintro _ h2 ⟨u, rfl, u0, u1, _, x2, f2⟩
      have go2 := go.extO x2 (by simp [fg.m])
      have oh2 := (oh.ext x (by simpa using ne)).ext x2 (by simpa using ne)
      have x02 := x.trans x2
      have hva := hv_at (hs := hs) (p := a) (by omega)
      have hxa := hb a
      have wh : IntKind.i64.wrap (hv hs a + 1) = hv hs a + 1 := wrap_id (by omega) (by omega)
      by_cases hu : 0 < u
      · simp [hu, J_precentorlaw15_ClockCounts_12, t9, wa]
        exact Tells.ok (hQ2 _ _ (.inl ⟨rfl, n - 1, by omega, a + 1, l, by simp [t3], by simp [t4], by simp [t5], by simp [t6], by simp [t8], by simp, by omega, by simpa using go2, by omega, fun y hy => by have := hx y hy; omega, x02, f2.mono (by omega)⟩))
      · simp [hu]
        have come : ∀ (t' : T) g' (m0 : Int), t' 3 = .ptr bf 0 → t' 4 = .ptr bc 0 → t' 5 = .ptr bh 0 → t' 6 = i → t' 8 = .bool (due c l) → t' 9 = I a → t' 7 = t 7 → t' 10 = .bool (own6 a) → t' 11 = I m0 → Gl pairR h g' (t 7) l → Ob g' bh (hs.map I) → Ext [bf] h g' → Feed g' bf (K + 3 * (a + 1)) →
            Tells (fun m => J_precentorlaw15_ClockCounts_14 Try.prog (acallX Try.prog X m) m (blkK 3 (sqK (J_precentorlaw15_ClockCounts_12 Try.prog (acallX Try.prog X m) m okK) okK)) t' g') Q2 := by
          intro t' g' m0 k3 k4 k5 k6 k8 k9 k7 k10 k11 go' oh' x' f'
          have hlx : ∀ y, y ∈ l → y.1 < (a : Int) := fun y hy => (hx y hy).2
          have key : due c (l ++ [((a : Int), m0)]) = (due c l && (!own6 a || decide (m0 = hv hs a + 1))) := by
            rw [due_snoc hlx, hc]
            by_cases ho : own6 a = true
            · rw [hn a ha (by rw [hc]; exact ho), ho]
              simp [eq_comm]
            · have ho : own6 a = false := by simpa using ho
              rw [ho]; rfl
          have fin : ∀ (t2 : T) g2, t2 3 = .ptr bf 0 → t2 4 = .ptr bc 0 → t2 5 = .ptr bh 0 → t2 6 = i → t2 8 = .bool (due c l && (!own6 a || decide (m0 = hv hs a + 1))) → t2 9 = I a → Gl pairR h g2 (t2 7) (l ++ [((a : Int), m0)]) → Ext [bf] h g2 → Feed g2 bf (K + 3 * (a + 1)) →
              Tells (fun m => J_precentorlaw15_ClockCounts_12 Try.prog (acallX Try.prog X m) m okK t2 g2) Q2 := by
            intro t2 g2 e3 e4 e5 e6 e8 e9 go2 x2 f2
            simp [J_precentorlaw15_ClockCounts_12, e9, wa]
            refine Tells.ok (hQ2 _ _ (.inl ⟨rfl, n - 1, by omega, a + 1, l ++ [((a : Int), m0)], by simp [e3], by simp [e4], by simp [e5], by simp [e6], by simp [e8, key], by simp, by omega, by simpa using go2, by simp; omega, fun y hy => ?_, x2, f2⟩))
            rcases List.mem_append.1 hy with hy | hy
            · have := hx y hy; omega
            · simp at hy; subst hy; simp; omega
          unfold J_precentorlaw15_ClockCounts_14
          cases hf : due c l <;> cases ho : own6 a <;>
          · rw [hf] at k8 fin
            rw [ho] at k10 fin
            simp [k8, k10, k11, k9, k5, k7, ix6 (bh := bh) (a := (a : Int)) ⟨by omega, by omega⟩, oh'.1, hva, wh, bldR, fillR, splice]
            refine Tells.app1 go' (by rfl) (by rfl) (show pairR.rep g' [I a, I m0] ((a : Int), m0) from rfl) (by rfl) (by rfl) (by omega) (by decide) x'.next fun s4 h4 g4 x4 y4 z4 => ?_
            try simp
            refine fin _ _ (by simp [k3]) (by simp [k4]) (by simp [k5]) (by simp [k6]) ?_ (by simp [k9]) (by simpa using g4) ?_ (f'.ext x4 (f'.out go'.1))
            · by_cases e : m0 = hv hs a + 1 <;> simp [e, k8]
            · exact y4 _ x'
        have hA : (a = 1 ∨ a = 3 ∨ a = 4) ∨ (a = 0 ∨ a = 2 ∨ a = 5) := by omega
        rcases hA with e | e
        · have ho : own6 a = true := by rcases e with rfl | rfl | rfl <;> rfl
          unfold J_precentorlaw15_ClockCounts_13
          rcases e with rfl | rfl | rfl <;>
          · simp [t9, t3]
            refine Tells.bind (Next hX 9 ⟨by omega, by omega⟩ f2 (by omega)) ?_
            rintro _ h3 ⟨u2, rfl, v0, v1, _, x3, f3⟩
            have v1 := v1 (by omega)
            have w1 : IntKind.i64.wrap (1 + u2) = 1 + u2 := wrap_id (by omega) (by omega)
            simp [w1, t3]
            refine Tells.bind (Next hX 8 ⟨by omega, by omega⟩ f3 (by omega)) ?_
            rintro _ h4 ⟨u3, rfl, _, _, _, x4, f4⟩
            have go4 := go2.extO (x3.trans x4) (by simp [f2.m])
            have oh4 := (oh2.ext x3 (by simpa using ne)).ext x4 (by simpa using ne)
            have x24 := (x02.trans x3).trans x4
            by_cases hu3 : 0 < u3
            · simp [hu3, t9, t5, ixpR, oh4.1, hva, wh]
              exact come _ _ _ (by simp [t3]) (by simp [t4]) (by simp [t5]) (by simp [t6]) (by simp [t8]) (by simp [t9]) (by simp) (by simp [own6]) (by simp; rfl) go4 oh4 x24 (f4.mono (by omega))
            · simp [hu3]
              exact come _ _ _ (by simp [t3]) (by simp [t4]) (by simp [t5]) (by simp [t6]) (by simp [t8]) (by simp [t9]) (by simp) (by simp [own6]) (by simp; rfl) go4 oh4 x24 (f4.mono (by omega))
        · have ho : own6 a = false := by rcases e with rfl | rfl | rfl <;> rfl
          unfold J_precentorlaw15_ClockCounts_13
          rcases e with rfl | rfl | rfl <;>
          · simp [t9, t3]
            refine Tells.bind (Next hX 9 ⟨by omega, by omega⟩ f2 (by omega)) ?_
            rintro _ h3 ⟨u2, rfl, v0, v1, _, x3, f3⟩
            have v1 := v1 (by omega)
            have w1 : IntKind.i64.wrap (1 + u2) = 1 + u2 := wrap_id (by omega) (by omega)
            have go3 := go2.extO x3 (by simp [f2.m])
            have oh3 := oh2.ext x3 (by simpa using ne)
            simp [w1]
            exact come _ _ _ (by simp [t3]) (by simp [t4]) (by simp [t5]) (by simp [t6]) (by simp [t8]) (by simp [t9]) (by simp) (by simp [own6]) (by simp; rfl) go3 oh3 (x02.trans x3) (f3.mono (by omega))
    · simp at hc6
      exact Tells.ok (hQ2 _ _ (.inr ⟨by simp, rfl, by simp [t3], by simp [t4], by simp [t5], by simp [t6], l, by simpa using go.1, by omega, by simp [t8], fun y hy => by have := hx y hy; omega, x, fg.mono (by omega)⟩))
  · exact ⟨0, [], t3, t4, t5, t6, by rw [t8]; rfl, by simpa using t9, by omega, by rw [t7]; exact Gl.nil, by simp, by simp, .refl, f⟩

theorem many_take {l : List (Int × Int)} {k : Nat} {a m : Int} (h : l[k]? = some (a, m)) (q : Int) : many (l.take (k + 1)) q = many (l.take k) q + if a = q then 1 else 0 := by
  unfold many
  rw [List.take_add_one, h]
  simp [List.countP_append, List.countP_cons]
  split <;> rfl
theorem many_le (l : List (Int × Int)) (q : Int) : 0 ≤ many l q ∧ many l q ≤ l.length := by
  unfold many
  have := List.countP_le_length (p := fun x : Int × Int => x.1 == q) (l := l)
  omega

theorem countsHad {h : Heap} {t : T} {bh : Nat} {hs : List Int} {l : List (Int × Int)} {fine : Bool} {t3 t4 t6 : AVal} (e3 : t 3 = t3) (e4 : t 4 = t4) (t5 : t 5 = .ptr bh 0) (e6 : t 6 = t6) (sl : Sl pairR h (t 7) l) (t8 : t 8 = .bool fine) (t12 : t 12 = I 0)
    (oh : Ob h bh (hs.map I)) (hl : hs.length = 6) (ll : l.length ≤ 6) (hx : ∀ x, x ∈ l → 0 ≤ x.1 ∧ x.1 < 6) (hb : ∀ p, 0 ≤ hv hs p ∧ hv hs p ≤ 200) :
    Tells (fun m => loopN (L_precentorlaw15_ClockCounts_7 Try.prog (acallX Try.prog X m) m) m t h) fun p g => p.1 = .exit 4 ∧ p.2 3 = t3 ∧ p.2 4 = t4 ∧ p.2 5 = .ptr bh 0 ∧ p.2 6 = t6 ∧
      ∃ hs', Ob g bh (hs'.map I) ∧ hs'.length = 6 ∧ (∀ p : Nat, p < 6 → hv hs' p = hv hs p + if fine = true then many l p else 0) ∧ Ext [bh] h g := by
  refine Tells.loop (fun n t' g => ∃ (k : Nat) (hs' : List Int), t' 3 = t3 ∧ t' 4 = t4 ∧ t' 5 = .ptr bh 0 ∧ t' 6 = t6 ∧ t' 7 = t 7 ∧ t' 8 = .bool fine ∧ t' 12 = I k ∧ k + n = l.length ∧ Ob g bh (hs'.map I) ∧ hs'.length = 6 ∧ (fine = true ∨ k = 0) ∧ (∀ p : Nat, p < 6 → hv hs' p = hv hs p + many (l.take k) p) ∧ Ext [bh] h g) ?_ l.length _ _ ?_
  · rintro n t' g ⟨k, hs', e3, e4, e5, e6, e7, e8, e12, hi, og, hl', hk, hh, x⟩
    refine Tells.prot fun Q2 hQ2 => ?_
    have sg := sl.ext x
    rw [← e7] at sg
    unfold L_precentorlaw15_ClockCounts_7
    have done : ∀ (t2 : T), t2 3 = t3 → t2 4 = t4 → t2 5 = .ptr bh 0 → t2 6 = t6 → (fine = true → k = l.length) → Q2 (.exit 4, t2) g := by
      intro t2 k3 k4 k5 k6 hf
      refine hQ2 _ _ (.inr ⟨by simp, rfl, k3, k4, k5, k6, hs', og, hl', fun p hp => ?_, x⟩)
      rw [hh p hp]
      by_cases hf2 : fine = true
      · rw [if_pos hf2, hf hf2, List.take_of_length_le (by omega)]
      · rw [if_neg hf2]
        rcases hk with hk | hk
        · exact absurd hk hf2
        · subst hk; simp [many]
    by_cases hc : k < l.length
    · cases hf : fine with
      | false =>
        rw [hf] at e8 done
        simp [e12, sg.len, hc, e8]
        exact Tells.ok (done _ (by simp [e3]) (by simp [e4]) (by simp [e5]) (by simp [e6]) (by simp))
      | true =>
        rw [hf] at e8 hQ2
        obtain ⟨⟨a, m0⟩, hdi⟩ : ∃ d, l[k]? = some d := ⟨_, List.getElem?_eq_getElem hc⟩
        obtain ⟨b, pp, B, q1, q2, q3, q4, q5⟩ := pair_at sg hdi
        have ha := hx (a, m0) (List.mem_of_getElem? hdi)
        simp only at ha
        have hat := hv_at (hs := hs') (p := a.toNat) (by omega)
        have hva := hh a.toNat (by omega)
        have hba := hb a.toNat
        have hm := many_le (l.take k) ((a.toNat : Nat) : Int)
        have hlt : (l.take k).length ≤ 6 := by simp; omega
        have wh : IntKind.i64.wrap (hv hs' a.toNat + 1) = hv hs' a.toNat + 1 := wrap_id (by omega) (by omega)
        have wk : IntKind.i64.wrap ((k : Int) + 1) = k + 1 := wrap_id (by omega) (by omega)
        simp [e12, sg.len, hc, e8, J_precentorlaw15_ClockCounts_8, q1, q2, q4, e5, ix6 (bh := bh) (a := a) ⟨by omega, by omega⟩, og.1, hat, wh]
        refine Tells.st1 og (by rfl) (by rfl) (by simp; omega) fun h2 o2 x2 => ?_
        simp [J_precentorlaw15_ClockCounts_9, e12, wk]
        refine Tells.ok (hQ2 _ _ (.inl ⟨rfl, n - 1, by omega, k + 1, hs'.set a.toNat (hv hs' a.toNat + 1), by simp [e3], by simp [e4], by simp [e5], by simp [e6], by simp [e7], by simp [e8], by simp, by omega, ?_, by simp [hl'], .inl rfl, fun p hp => ?_, x.trans x2⟩))
        · rw [List.map_set]; exact o2
        · rw [hv_set (by omega), many_take hdi]
          by_cases e : a.toNat = p
          · subst e
            rw [if_pos rfl, if_pos (by omega), hva]; omega
          · rw [if_neg e, if_neg (by omega), hh p hp]; omega
    · cases hf : fine <;>
      · rw [hf] at e8 done
        simp [e12, sg.len, hc, e8]
        exact Tells.ok (done _ (by simp [e3]) (by simp [e4]) (by simp [e5]) (by simp [e6]) (by omega))
  · exact ⟨0, hs, e3, e4, t5, e6, rfl, t8, by simpa using t12, by omega, oh, hl, .inr rfl, fun p _ => by simp [many], .refl⟩

end
end Go.Proofs.Ytodccjbgomimjaa
