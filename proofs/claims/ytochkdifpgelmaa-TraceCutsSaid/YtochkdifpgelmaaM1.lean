/-
  Texts of a claim, merged: Trc6, Trc7, TrL, Trc5, Law25a.
-/
import Derived.Test.YtochkdifpgelmaaM0
import Derived.Test.YtochkdifpgelmaaWrE
set_option linter.unusedVariables false
set_option linter.unusedSimpArgs false
/-! What trace's first and lay tell. -/
namespace Go.Proofs.Ytochkdifpgelmaa
open Go.Ab

def isSent (x : Int × Int) (m : Mk) : Bool := m.sent && decide (mid m = x)
/-- With which mark it was sent first. -/
def firstS (l : List Mk) (x : Int × Int) : Int := match l.findIdx? (isSent x) with
  | some i => (i : Nat)
  | none => -1
theorem firstS_none {l : List Mk} {x : Int × Int} (h : ∀ m, m ∈ l → isSent x m = false) : firstS l x = -1 := by
  unfold firstS
  rw [List.findIdx?_eq_none_iff.2 h]
theorem firstS_some {l : List Mk} {x : Int × Int} {i : Nat} {m : Mk} (h : l[i]? = some m) (hm : isSent x m = true) (hj : ∀ k, k ∈ l.take i → isSent x k = false) : firstS l x = i := by
  unfold firstS
  have hi := (List.getElem?_eq_some_iff.1 h).1
  have e : l.findIdx? (isSent x) = some i := by
    rw [List.findIdx?_eq_some_iff_getElem]
    refine ⟨hi, ?_, fun j hji => ?_⟩
    · rw [List.getElem?_eq_getElem hi] at h
      cases h; exact hm
    · have := hj l[j] (by rw [List.mem_take_iff_getElem]; exact ⟨j, by omega, rfl⟩)
      simp [this]
  rw [e]
theorem firstS_ge (l : List Mk) (x : Int × Int) : -1 ≤ firstS l x ∧ firstS l x ≤ l.length := by
  unfold firstS
  split
  · rename_i i h
    have := (List.findIdx?_eq_some_iff_getElem.1 h).1
    omega
  · omega
/-- Into a rising row, once. -/
def layN (l : List (Int × Int)) (x : Int × Int) : Nat := (l.takeWhile fun y => lt2 y x).length
def layF (l : List (Int × Int)) (x : Int × Int) : List (Int × Int) := if l[layN l x]? = some x then l else l.take (layN l x) ++ [x] ++ l.drop (layN l x)
theorem layN_le (l : List (Int × Int)) (x : Int × Int) : layN l x ≤ l.length := List.Sublist.length_le (List.takeWhile_sublist _)
theorem tw_all {α : Type} (p : α → Bool) : ∀ (l : List α) (y : α), y ∈ l.takeWhile p → p y = true
  | [], y, h => by simp at h
  | z :: r, y, h => by
    cases hp : p z with
    | false => simp [List.takeWhile, hp] at h
    | true =>
      simp [List.takeWhile, hp] at h
      rcases h with h | h
      · rw [h]; exact hp
      · exact tw_all p r y h
theorem layN_all {l : List (Int × Int)} {x : Int × Int} : ∀ y, y ∈ l.take (layN l x) → lt2 y x = true := by
  have : l.take (layN l x) = l.takeWhile fun y => lt2 y x := by
    unfold layN
    exact (List.prefix_iff_eq_take.1 (List.takeWhile_prefix _)).symm
  rw [this]
  exact tw_all _ l
theorem layN_of {x : Int × Int} : ∀ {l : List (Int × Int)} {i : Nat}, (∀ y, y ∈ l.take i → lt2 y x = true) → i ≤ l.length → (∀ y, l[i]? = some y → lt2 y x = false) → layN l x = i
  | [], i, _, hi, _ => by simp at hi; subst hi; simp [layN]
  | y :: r, 0, _, _, h => by
    have := h y rfl
    simp [layN, this]
  | y :: r, i + 1, h1, h2, h3 => by
    have hy := h1 y (by simp)
    have ih := layN_of (l := r) (i := i) (fun z hz => h1 z (by simp [hz])) (by simpa using h2) (fun z hz => h3 z (by simpa using hz))
    simp only [layN] at ih ⊢
    simp [List.takeWhile, hy, ih]

theorem twoEqL {x y : Int × Int} : (y.1 == x.1 && y.2 == x.2) = decide (y = x) := by
  obtain ⟨a, b⟩ := x
  obtain ⟨c, d⟩ := y
  by_cases q1 : c = a <;> by_cases q2 : d = b <;> simp [q1, q2]
section
variable {X : XTab}
theorem trace_first (hX : OnlyKnown X) {h : Heap} {v : AVal} {l : List Mk} (o : Sl mkR h v l) (hl : l.length ≤ 100) (y : Int × Int) : Tells (fun q => acallX Try.prog X q F_trace_first [v, .agg (idC y)] h) fun r h' => r = I (firstS l y) ∧ Ext [] h h' := by
  refine R_trace_first _ _ (hX _ _ rfl) ?_
  refine Tells.prot fun Q' hQ => ?_
  unfold S_trace_first
  simp
  refine Tells.box (cs := idC y) (by rfl) (by rfl) fun h1 bx ox x1 lx => ?_
  simp [(o.ext x1).len]
  refine Tells.bind (Tells.loop (fun n t g => ∃ i : Nat, t 3 = .ptr bx 0 ∧ t 7 = v ∧ t 8 = I l.length ∧ t 9 = I i ∧ i + n = l.length ∧ Ext [] h1 g ∧ ∀ k, k ∈ l.take i → isSent y k = false)
    (Q := fun p g => Ext [] h1 g ∧ ((p.1 = .exit 0 ∧ firstS l y = -1) ∨ (p.1 = .ret ∧ p.2 4 = I (firstS l y)))) ?_ l.length _ _ ?_) ?_
  · rintro n t g ⟨i, t3, t7, t8, t9, hi, x, hno⟩
    refine Tells.prot fun Q2 hQ2 => ?_
    unfold L_trace_first_1
    simp [t9, t8]
    refine Tells.cb (fun hc => ?_) (fun hc => ?_)
    · simp at hc
      obtain ⟨m, hm⟩ : ∃ m, l[i]? = some m := ⟨_, List.getElem?_eq_getElem hc⟩
      obtain ⟨b, p, B, q1, q2, q3, q4, q5, q6, q7, q8, q9⟩ := mk_at ((o.ext x1).ext x) hm
      have htk : l.take (i + 1) = l.take i ++ [m] := by rw [List.take_add_one, hm]; rfl
      have w : IntKind.i64.wrap ((i : Int) + 1) = i + 1 := wrap_id (by omega) (by omega)
      simp [J_trace_first_2, t7, t9, q1, q2, q3, q4]
      refine Tells.newSt (ds := mkC m) (by rfl) (by rfl) (by rfl) (by rfl) fun g1 bm om y1 l1 => ?_
      simp [om.1, mkC]
      by_cases ks : m.sent = true
      · simp [ks, om.1, mkC]
        refine Tells.cbE (by simpa [mkC, ks] using trace_id hX m g1) ?_
        rintro _ g2 ⟨rfl, y2⟩
        have ox1 := (ox.e x).e y1
        have oxe := ox1.1
        have oxe2 := (ox1.e y2).1
        simp only [idC] at oxe oxe2
        simp [t3, oxe, oxe2, idC, aBin_eql2 two30]
        by_cases hq : mid m = y
        · have hq1 : (mid m).1 = y.1 := by rw [hq]
          have hq2 : (mid m).2 = y.2 := by rw [hq]
          simp [hq1, hq2]
          refine Tells.ok (hQ2 _ _ (.inr ⟨by simp, (x.trans y1).trans y2, .inr ⟨rfl, ?_⟩⟩))
          rw [firstS_some hm (by simp [isSent, ks, hq]) hno]
          simp
        · have hne : ¬ ((mid m).1 = y.1 ∧ (mid m).2 = y.2) := fun z => hq (Prod.ext z.1 z.2)
          have hne' : ((mid m).1 == y.1 && (mid m).2 == y.2) = false := by
            cases hb : ((mid m).1 == y.1 && (mid m).2 == y.2) with
            | false => rfl
            | true => simp at hb; exact absurd hb hne
          simp [hne, hne', J_trace_first_3, t9, w]
          refine Tells.ok (hQ2 _ _ (.inl ⟨rfl, n - 1, by omega, i + 1, by simp [t3], by simp [t7], by simp [t8], by simp, by omega, (x.trans y1).trans y2, fun k hk => ?_⟩))
          rw [htk] at hk
          rcases List.mem_append.1 hk with z | z
          · exact hno k z
          · simp at z; subst z; simp [isSent, hq]
      · have ks' : m.sent = false := by simpa using ks
        simp [ks', J_trace_first_3, t9, w]
        refine Tells.ok (hQ2 _ _ (.inl ⟨rfl, n - 1, by omega, i + 1, by simp [t3], by simp [t7], by simp [t8], by simp, by omega, x.trans y1, fun k hk => ?_⟩))
        rw [htk] at hk
        rcases List.mem_append.1 hk with z | z
        · exact hno k z
        · simp at z; subst z; simp [isSent, ks']
    · simp at hc
      rw [List.take_of_length_le (by omega)] at hno
      exact Tells.ok (hQ2 _ _ (.inr ⟨by simp, x, .inl ⟨rfl, firstS_none hno⟩⟩))
  · exact ⟨0, by simp, by simp, by simp, by simp, by omega, .refl, by simp⟩
  · rintro ⟨ex, t⟩ g ⟨x, ⟨rfl, ho⟩ | ⟨rfl, t4⟩⟩
    · simp [J_trace_first_0]
      exact Tells.ok (hQ _ _ ⟨by rw [ho], x1.trans x⟩)
    · simp
      exact Tells.ok (hQ _ _ ⟨t4, x1.trans x⟩)

theorem trace_lay (hX : OnlyKnown X) {h : Heap} {v : AVal} {l : List (Int × Int)} (o : Sl idR h v l) (hl : l.length ≤ 1000) (y : Int × Int) : Tells (fun q => acallX Try.prog X q F_trace_lay [v, .agg (idC y)] h) fun r h' => Sl idR h' r (layF l y) ∧ Ext [] h h' := by
  refine R_trace_lay _ _ (hX _ _ rfl) ?_
  refine Tells.prot fun Q' hQ => ?_
  unfold S_trace_lay
  simp
  refine Tells.box (cs := idC y) (by rfl) (by rfl) fun h1 bx ox x1 lx => ?_
  try simp
  refine Tells.bind (Tells.loop (fun n t g => ∃ i : Nat, t 0 = v ∧ t 3 = .ptr bx 0 ∧ t 5 = I i ∧ i + n = l.length ∧ Ext [] h1 g ∧ ∀ k, k ∈ l.take i → lt2 k y = true)
    (Q := fun p g => Ext [] h1 g ∧ p.1 = .exit 0 ∧ p.2 0 = v ∧ p.2 3 = .ptr bx 0 ∧ p.2 5 = I (layN l y)) ?_ l.length _ _ ?_) ?_
  · rintro n t g ⟨i, t0, t3, t5, hi, x, hno⟩
    refine Tells.prot fun Q2 hQ2 => ?_
    unfold L_trace_lay_2
    have og := (o.ext x1).ext x
    have oxe := (ox.e x).1
    simp only [idC] at oxe
    simp [t5, t0, og.len]
    by_cases hc : i < l.length
    · obtain ⟨k, hk⟩ : ∃ k, l[i]? = some k := ⟨_, List.getElem?_eq_getElem hc⟩
      obtain ⟨b, p, B, q1, q2, q3, q4, q5, q6, q7⟩ := id_at og hk
      have htk : l.take (i + 1) = l.take i ++ [k] := by rw [List.take_add_one, hk]; rfl
      have w : IntKind.i64.wrap ((i : Int) + 1) = i + 1 := wrap_id (by omega) (by omega)
      simp [hc, t5, t0, t3, q1, q2, q3, q4, oxe]
      refine Tells.cbE (by simpa [idC] using trace_ahead hX k y g) ?_
      rintro _ g2 ⟨rfl, y2⟩
      by_cases hlt : lt2 k y = true
      · simp [hlt, J_trace_lay_3, t5, w]
        refine Tells.ok (hQ2 _ _ (.inl ⟨rfl, n - 1, by omega, i + 1, by simp [t0], by simp [t3], by simp, by omega, x.trans y2, fun z hz => ?_⟩))
        rw [htk] at hz
        rcases List.mem_append.1 hz with q | q
        · exact hno z q
        · simp at q; subst q; exact hlt
      · have hlt' : lt2 k y = false := by simpa using hlt
        simp [hlt']
        refine Tells.ok (hQ2 _ _ (.inr ⟨by simp, x.trans y2, rfl, by simp [t0], by simp [t3], ?_⟩))
        rw [layN_of (i := i) hno (by omega) fun z hz => by rw [hk] at hz; cases hz; exact hlt']
        simp [t5]
    · have : i = l.length := by omega
      simp [hc]
      refine Tells.ok (hQ2 _ _ (.inr ⟨by simp, x, rfl, by simp [t0], by simp [t3], ?_⟩))
      rw [layN_of (i := i) hno (by omega) fun z hz => by have := (List.getElem?_eq_some_iff.1 hz).1; omega]
      simp [t5]
  · exact ⟨0, by simp, by simp, by simp, by omega, .refl, by simp⟩
  · rintro ⟨ex, t⟩ g ⟨x, rfl, t0, t3, t5⟩
    have t0 : t 0 = v := t0
    have t3 : t 3 = .ptr bx 0 := t3
    have t5 : t 5 = I (layN l y) := t5
    have og := (o.ext x1).ext x
    have oxg := ox.e x
    have oxe := oxg.1
    simp only [idC] at oxe
    have hle := layN_le l y
    have fin : ∀ t : T, t 0 = v → t 3 = .ptr bx 0 → t 5 = I (layN l y) → l[layN l y]? ≠ some y → Tells (fun z => J_trace_lay_1 Try.prog (acallX Try.prog X z) z (retK Try.prog [.tmp 4]) t g) Q' := by
      intro t t0 t3 t5 hne
      unfold J_trace_lay_1
      obtain ⟨u, s1, s2, s3⟩ := og.takeR (n := 2) rfl (hi := layN l y) hle
      simp [t0, t5, s1]
      refine Tells.copy (r := idR) s2 (by rfl) (by simp; omega) (by decide) fun v2 h2 g2 x2 w2 => ?_
      have oxe2 := (oxg.e x2).1
      simp only [idC] at oxe2
      simp [t3, oxe2]
      refine Tells.app1E (r := idR) (c := [I y.1, I y.2]) (x := y) g2 (by rfl) (by rfl) (by rfl) (by rfl) (by rfl) (by simp; omega) (by decide) x2.next fun v3 h3 g3 x3 y3 z3 => ?_
      have x03 := y3 _ x2
      obtain ⟨u2, r1, r2, r3⟩ := (og.ext x03).dropR (n := 2) rfl (lo := layN l y) hle
      simp [t0, t5, r1]
      refine Tells.appNE (r := idR) g3 r2 (by rfl) (by simp; omega) (by decide) x03.next fun v4 h4 g4 x4 y4 z4 => ?_
      try simp
      refine Tells.ok (hQ _ _ ⟨?_, (x1.trans x).trans (y4 _ x03)⟩)
      unfold layF
      rw [if_neg hne]
      simpa using g4.1
    simp
    unfold J_trace_lay_0
    by_cases hc : layN l y < l.length
    · obtain ⟨k, hk⟩ : ∃ k, l[layN l y]? = some k := ⟨_, List.getElem?_eq_getElem hc⟩
      obtain ⟨b, p, B, q1, q2, q3, q4, q5, q6, q7⟩ := id_at og hk
      have hci : (layN l y : Int) < (l.length : Int) := by omega
      simp [t0, t5, t3, og.len, hc, q1, q2, q3, q4, oxe, aBin_eql2 two30]
      by_cases hq : k = y
      · subst hq
        simp
        refine Tells.ok (hQ _ _ ⟨?_, x1.trans x⟩)
        unfold layF
        rw [if_pos hk]
        simpa [t0] using og
      · have hne : ¬ (k.1 = y.1 ∧ k.2 = y.2) := fun z => hq (Prod.ext z.1 z.2)
        have hne' : (k.1 == y.1 && k.2 == y.2) = false := by rw [twoEqL]; simpa using hq
        simp [hne, hne']
        exact fin _ (by simp [t0]) (by simp [t3]) (by simp [t5]) (by rw [hk]; simpa using hq)
    · have hci : ¬ (layN l y : Int) < (l.length : Int) := by omega
      simp [t0, t5, t3, og.len, hc]
      exact fin _ (by simp [t0]) (by simp [t3]) (by simp [t5]) (by rw [List.getElem?_eq_none (by omega)]; simp)
end
end Go.Proofs.Ytochkdifpgelmaa

/-! What trace's Causes tells: the plain part. -/
namespace Go.Proofs.Ytochkdifpgelmaa
open Go.Ab

theorem lt2_iff {a b : Int × Int} : lt2 a b = true ↔ a.1 < b.1 ∨ (a.1 = b.1 ∧ a.2 < b.2) := by simp [lt2]
theorem lt2_irrefl (a : Int × Int) : lt2 a a = false := by
  cases h : lt2 a a with
  | false => rfl
  | true => rw [lt2_iff] at h; omega
theorem lt2_trans {a b c : Int × Int} (h : lt2 a b = true) (k : lt2 b c = true) : lt2 a c = true := by
  rw [lt2_iff] at *; omega
theorem lt2_total {a b : Int × Int} (h : lt2 a b = false) (hne : a ≠ b) : lt2 b a = true := by
  rw [lt2_iff]
  have h' : ¬ (a.1 < b.1 ∨ (a.1 = b.1 ∧ a.2 < b.2)) := fun q => by rw [lt2_iff.2 q] at h; cases h
  by_cases q1 : a.1 = b.1
  · by_cases q2 : a.2 = b.2
    · exact absurd (Prod.ext q1 q2) hne
    · omega
  · omega
def Rise2 (l : List (Int × Int)) : Prop := l.Pairwise fun a b => lt2 a b = true
theorem rise_ext : ∀ {l m : List (Int × Int)}, Rise2 l → Rise2 m → (∀ z, z ∈ l ↔ z ∈ m) → l = m
  | [], [], _, _, _ => rfl
  | [], b :: m, _, _, h => by have := (h b).2 (by simp); simp at this
  | a :: l, [], _, _, h => by have := (h a).1 (by simp); simp at this
  | a :: l, b :: m, hl, hm, h => by
    obtain ⟨l1, l2⟩ := List.pairwise_cons.1 hl
    obtain ⟨m1, m2⟩ := List.pairwise_cons.1 hm
    have hab : a = b := by
      rcases List.mem_cons.1 ((h a).1 (by simp)) with q | q
      · exact q
      · rcases List.mem_cons.1 ((h b).2 (by simp)) with r | r
        · exact r.symm
        · have := lt2_trans (m1 a q) (l1 b r)
          rw [lt2_irrefl] at this; cases this
    subst hab
    rw [rise_ext l2 m2 fun z => ?_]
    constructor
    · intro hz
      rcases List.mem_cons.1 ((h z).1 (by simp [hz])) with q | q
      · subst q; have := l1 z hz; rw [lt2_irrefl] at this; cases this
      · exact q
    · intro hz
      rcases List.mem_cons.1 ((h z).2 (by simp [hz])) with q | q
      · subst q; have := m1 z hz; rw [lt2_irrefl] at this; cases this
      · exact q
theorem layF_ok {l : List (Int × Int)} {y : Int × Int} (h : Rise2 l) : Rise2 (layF l y) ∧ (∀ z, z ∈ layF l y ↔ z = y ∨ z ∈ l) ∧ (layF l y).length ≤ l.length + 1 := by
  unfold layF
  split
  · rename_i hk
    exact ⟨h, fun z => ⟨.inr, fun q => by
      rcases q with q | q
      · rw [q]; exact List.mem_of_getElem? hk
      · exact q⟩, by omega⟩
  · rename_i hk
    have hle := layN_le l y
    have hsplit : l = l.take (layN l y) ++ l.drop (layN l y) := (List.take_append_drop _ _).symm
    have h1 : ∀ a, a ∈ l.take (layN l y) → lt2 a y = true := layN_all
    have h2 : ∀ d, d ∈ l.drop (layN l y) → lt2 y d = true := by
      cases hd : l.drop (layN l y) with
      | nil => intro d hd; simp at hd
      | cons d0 r =>
        have e0 : l[layN l y]? = some d0 := by
          have : (l.drop (layN l y))[0]? = some d0 := by rw [hd]; rfl
          rw [List.getElem?_drop] at this
          simpa using this
        have hp : Rise2 (d0 :: r) := by
          have := (List.pairwise_append.1 (hsplit ▸ h : (l.take (layN l y) ++ l.drop (layN l y)).Pairwise _)).2.1
          rw [hd] at this
          exact this
        have k0 : lt2 d0 y = false := by
          -- the first of those that stay behind
          have : ∀ (l : List (Int × Int)) (d : Int × Int), l[(l.takeWhile fun z => lt2 z y).length]? = some d → lt2 d y = false := by
            intro l
            induction l with
            | nil => intro d h; simp at h
            | cons a l ih =>
              intro d h
              cases ha : lt2 a y with
              | true => simp [List.takeWhile, ha] at h; exact ih d h
              | false => simp [List.takeWhile, ha] at h; rw [← h]; exact ha
          exact this l d0 e0
        have k1 := lt2_total k0 (fun q => hk (by rw [e0, q]))
        intro d hdm
        rcases List.mem_cons.1 hdm with q | q
        · rw [q]; exact k1
        · exact lt2_trans k1 ((List.pairwise_cons.1 hp).1 d q)
    have hpa := List.pairwise_append.1 (hsplit ▸ h : (l.take (layN l y) ++ l.drop (layN l y)).Pairwise _)
    refine ⟨?_, fun z => ?_, by simp; omega⟩
    · unfold Rise2
      rw [List.append_assoc, List.pairwise_append]
      refine ⟨hpa.1, ?_, fun a ha b hb => ?_⟩
      · rw [List.singleton_append, List.pairwise_cons]
        exact ⟨h2, hpa.2.1⟩
      · rw [List.singleton_append] at hb
        rcases List.mem_cons.1 hb with q | q
        · rw [q]; exact h1 a ha
        · exact hpa.2.2 a ha b q
    · constructor
      · intro hz
        simp only [List.mem_append, List.mem_singleton] at hz
        rcases hz with (q | q) | q
        · exact .inr (List.mem_of_mem_take q)
        · exact .inl q
        · exact .inr (List.mem_of_mem_drop q)
      · intro hz
        simp only [List.mem_append, List.mem_singleton]
        rcases hz with q | q
        · exact .inl (.inr q)
        · rw [hsplit] at q
          rcases List.mem_append.1 q with r | r
          · exact .inl (.inl r)
          · exact .inr r

/-- In some steps from x. -/
inductive Rch {α : Type} (R : α → α → Prop) (x : α) : α → Prop
  | one {z : α} : R x z → Rch R x z
  | step {y z : α} : Rch R x y → R y z → Rch R x z
theorem Rch.trans {α : Type} {R : α → α → Prop} {x y z : α} (h : Rch R x y) (k : Rch R y z) : Rch R x z := by
  induction k with
  | one q => exact .step h q
  | step _ q ih => exact .step ih q
/-- z was seen by y's client ahead of sending y. -/
def causeP (l : List Mk) (y z : Int × Int) : Prop := ∃ (i : Nat) (m : Mk), l[i]? = some m ∧ (i : Int) < firstS l y ∧ m.c = y.1 ∧ mid m = z

theorem nodup_sub_len {α : Type} [DecidableEq α] : ∀ {l m : List α}, l.Nodup → (∀ x, x ∈ l → x ∈ m) → l.length ≤ m.length
  | [], m, _, _ => by simp
  | a :: l, m, hn, hs => by
    obtain ⟨h1, h2⟩ := List.nodup_cons.1 hn
    have ha := hs a (by simp)
    have := nodup_sub_len (l := l) (m := m.erase a) h2 fun x hx => by
      have hne : x ≠ a := fun q => h1 (q ▸ hx)
      exact (List.mem_erase_of_ne hne).2 (hs x (by simp [hx]))
    rw [List.length_erase_of_mem ha] at this
    have hpos : 0 < m.length := List.length_pos_of_mem ha
    simp only [List.length_cons]
    omega
/-- All that is reached has come, where nothing is left to do. -/
theorem reach_all {l : List Mk} {x : Int × Int} {ks : List (Int × Int)} {D : Int → Int} (h1 : ∀ (j : Nat) (m : Mk), l[j]? = some m → (j : Int) < D m.c → mid m ∈ ks) (h2 : ∀ z, z = x ∨ z ∈ ks → firstS l z ≤ D z.1) {z : Int × Int} (h : Rch (causeP l) x z) : z ∈ ks := by
  have key : ∀ y z, (y = x ∨ y ∈ ks) → causeP l y z → z ∈ ks := fun y z hy ⟨i, m, k1, k2, k3, k4⟩ => by
    rw [← k4]
    refine h1 i m k1 ?_
    have := h2 y hy
    rw [k3]; omega
  induction h with
  | one q => exact key _ _ (.inl rfl) q
  | step _ q ih => exact key _ _ (.inr ih) q
end Go.Proofs.Ytochkdifpgelmaa

/-! Plain laws of what trace tells: a line, or none. -/
namespace Go.Proofs.Ytochkdifpgelmaa
open Go.Ab

def cntB {α : Type} (p : α → Bool) (l : List α) : Nat := (l.filter p).length
theorem cntB_cons {α : Type} (p : α → Bool) (a : α) (l : List α) : cntB p (a :: l) = (if p a = true then 1 else 0) + cntB p l := by
  unfold cntB
  cases h : p a
  · rw [List.filter_cons_of_neg (by simp [h])]; simp
  · rw [List.filter_cons_of_pos h]; simp; omega
section
variable {α β : Type} {T : α → β → Prop} {p : α → Bool} {q : β → Bool}
theorem cnt_le (h : ∀ r a, T r a → q a = true → p r = true) : ∀ {R : List α} {A : List β}, All2 T R A → cntB q A ≤ cntB p R
  | [], [], _ => Nat.le_refl _
  | r :: R, a :: A, k => by
    have ih := cnt_le h k.2
    rw [cntB_cons, cntB_cons]
    have := h r a k.1
    split
    · rename_i hq; rw [if_pos (this hq)]; omega
    · split <;> omega
  | [], _ :: _, k => k.elim
  | _ :: _, [], k => k.elim
theorem cnt_eq (h : ∀ r a, T r a → q a = true → p r = true) : ∀ {R : List α} {A : List β}, All2 T R A → cntB q A = cntB p R → All2 (fun r a => T r a ∧ (p r = true → q a = true)) R A
  | [], [], _, _ => trivial
  | r :: R, a :: A, k, e => by
    have h1 := cnt_le h k.2
    have h2 := h r a k.1
    rw [cntB_cons, cntB_cons] at e
    by_cases hq : q a = true
    · rw [if_pos hq, if_pos (h2 hq)] at e
      exact ⟨⟨k.1, fun _ => hq⟩, cnt_eq h k.2 (by omega)⟩
    · rw [if_neg hq] at e
      by_cases hp : p r = true
      · rw [if_pos hp] at e; omega
      · rw [if_neg hp] at e
        exact ⟨⟨k.1, fun z => absurd z hp⟩, cnt_eq h k.2 (by omega)⟩
  | [], _ :: _, k, _ => k.elim
  | _ :: _, [], k, _ => k.elim
end
theorem occ_heads (x : Int × Int) : ∀ A : List Ids, occ (headsF A) x = (cntB (fun a => decide (a.head? = some x)) A : Nat)
  | [] => by simp [occ, headsF, cntB]
  | a :: A => by
    have ih := occ_heads x A
    rw [cntB_cons]
    unfold occ headsF at ih ⊢
    cases a with
    | nil =>
      rw [List.filterMap_cons_none rfl, if_neg (by simp), Nat.zero_add]
      exact ih
    | cons y r =>
      rw [show List.filterMap List.head? ((y :: r) :: A) = y :: List.filterMap List.head? A from rfl]
      by_cases hy : y = x
      · subst hy
        rw [List.filter_cons_of_pos (by simp), List.length_cons, if_pos (by simp)]
        omega
      · rw [List.filter_cons_of_neg (by simpa using hy), if_neg (by simpa using hy)]
        omega
theorem occ_nodup {x : Int × Int} : ∀ {a : Ids}, a.Nodup → occ a x = if x ∈ a then 1 else 0
  | [], _ => by simp [occ]
  | y :: r, h => by
    obtain ⟨h1, h2⟩ := List.nodup_cons.1 h
    have ih := occ_nodup (x := x) h2
    unfold occ at ih ⊢
    by_cases hy : y = x
    · subst hy
      rw [List.filter_cons_of_pos (by simp), if_pos (by simp)]
      rw [if_neg h1] at ih
      rw [List.length_cons]; omega
    · rw [List.filter_cons_of_neg (by simpa using hy), ih]
      have : x ≠ y := fun q => hy q.symm
      simp [this]
theorem occ_flat (x : Int × Int) : ∀ {R : List Ids}, (∀ a, a ∈ R → a.Nodup) → occ R.flatten x = (cntB (fun a => decide (x ∈ a)) R : Nat)
  | [], _ => by simp [occ, cntB]
  | a :: R, h => by
    have ih := occ_flat x (R := R) fun b hb => h b (by simp [hb])
    have ha := occ_nodup (x := x) (h a (by simp))
    rw [cntB_cons]
    unfold occ at ih ha ⊢
    rw [List.flatten_cons, List.filter_append, List.length_append]
    by_cases hx : x ∈ a
    · rw [if_pos hx] at ha; rw [if_pos (decide_eq_true hx)]; omega
    · rw [if_neg hx] at ha; rw [if_neg (by simpa using hx)]; omega

/-! ### who is next -/

theorem bestG_some {ok : Int × Int → Bool} {x : Int × Int} : ∀ {A : List Ids} {acc : Option (Int × Int)}, bestG ok acc A = some x → acc = some x ∨ (ok x = true ∧ ∃ a, a ∈ A ∧ a.head? = some x)
  | [], acc, h => .inl h
  | [] :: A, acc, h => by
    rcases bestG_some (A := A) (acc := acc) h with q | ⟨q1, a, q2, q3⟩
    · exact .inl q
    · exact .inr ⟨q1, a, by simp [q2], q3⟩
  | (y :: r) :: A, acc, h => by
    simp only [bestG] at h
    rcases bestG_some h with q | ⟨q1, a, q2, q3⟩
    · split at q
      · rename_i k; cases q; exact .inr ⟨k.1, _, List.mem_cons_self .., rfl⟩
      · exact .inl q
    · exact .inr ⟨q1, a, by simp [q2], q3⟩
/-- The least of those that may come. -/
theorem bestG_least {ok : Int × Int → Bool} : ∀ {A : List Ids} {acc : Option (Int × Int)}, match bestG ok acc A with
    | none => acc = none ∧ ∀ a x, a ∈ A → a.head? = some x → ok x = false
    | some y => (∀ z, acc = some z → z = y ∨ lt2 y z = true) ∧ ∀ a x, a ∈ A → a.head? = some x → ok x = true → x = y ∨ lt2 y x = true
  | [], acc => by
    cases acc with
    | none => exact ⟨rfl, fun a x h => by simp at h⟩
    | some z => exact ⟨fun w h => .inl (by cases h; rfl), fun a x h => by simp at h⟩
  | [] :: A, acc => by
    have ih := bestG_least (ok := ok) (A := A) (acc := acc)
    simp only [bestG]
    cases hb : bestG ok acc A with
    | none =>
      rw [hb] at ih
      refine ⟨ih.1, fun a x ha hx => ?_⟩
      rcases List.mem_cons.1 ha with q | q
      · subst q; simp at hx
      · exact ih.2 a x q hx
    | some y =>
      rw [hb] at ih
      refine ⟨ih.1, fun a x ha hx => ?_⟩
      rcases List.mem_cons.1 ha with q | q
      · subst q; simp at hx
      · exact ih.2 a x q hx
  | (z :: r) :: A, acc => by
    have ih := bestG_least (ok := ok) (A := A) (acc := if ok z = true ∧ less1 z acc = true then some z else acc)
    simp only [bestG]
    cases hb : bestG ok (if ok z = true ∧ less1 z acc = true then some z else acc) A with
    | none =>
      rw [hb] at ih
      obtain ⟨h1, h2⟩ := ih
      split at h1
      · cases h1
      · rename_i hk
        refine ⟨h1, fun a x ha hx => ?_⟩
        rcases List.mem_cons.1 ha with q | q
        · subst q
          simp at hx; subst hx
          cases ho : ok z with
          | false => rfl
          | true => exact absurd ⟨ho, by rw [h1]; rfl⟩ hk
        · exact h2 a x q hx
    | some y =>
      rw [hb] at ih
      obtain ⟨h1, h2⟩ := ih
      by_cases hk : ok z = true ∧ less1 z acc = true
      · rw [if_pos hk] at h1
        have hz := h1 z rfl
        refine ⟨fun w hw => ?_, fun a x ha hx ho => ?_⟩
        · have : lt2 z w = true := by have := hk.2; rw [hw] at this; exact this
          right
          rcases hz with q | q
          · rw [← q]; exact this
          · exact lt2_trans q this
        · rcases List.mem_cons.1 ha with q | q
          · subst q
            simp at hx; subst hx; exact hz
          · exact h2 a x q hx ho
      · rw [if_neg hk] at h1
        refine ⟨h1, fun a x ha hx ho => ?_⟩
        rcases List.mem_cons.1 ha with q | q
        · subst q
          simp at hx; subst hx
          -- it is not less than what was there
          cases hacc : acc with
          | none => exact absurd ⟨ho, by rw [hacc]; rfl⟩ hk
          | some w =>
            have hnl : lt2 z w = false := by
              cases hl : lt2 z w with
              | false => rfl
              | true => exact absurd ⟨ho, by rw [hacc]; exact hl⟩ hk
            have hw := h1 w hacc
            by_cases hzw : z = w
            · rw [hzw]; exact hw
            · have := lt2_total hnl hzw
              right
              rcases hw with q | q
              · rw [← q]; exact this
              · exact lt2_trans q this
        · exact h2 a x q hx ho

/-! ### what is left -/

structure LInv (R A : List Ids) (out : Ids) : Prop where
  rows : All2 (fun r a => ∃ p : Ids, r = p ++ a ∧ p.Sublist out ∧ ∀ z, z ∈ a → z ∉ out) R A
  nd : out.Nodup
  sub : ∀ z, z ∈ out → z ∈ R.flatten
theorem all2_mem {α β : Type} {T : α → β → Prop} : ∀ {R : List α} {A : List β}, All2 T R A → ∀ a, a ∈ A → ∃ r, r ∈ R ∧ T r a
  | [], [], _, a, h => by simp at h
  | r :: R, b :: A, k, a, h => by
    rcases List.mem_cons.1 h with q | q
    · subst q; exact ⟨r, by simp, k.1⟩
    · obtain ⟨s, h1, h2⟩ := all2_mem k.2 a q
      exact ⟨s, by simp [h1], h2⟩
  | [], _ :: _, k, _, _ => k.elim
  | _ :: _, [], k, _, _ => k.elim
theorem all2_mem' {α β : Type} {T : α → β → Prop} : ∀ {R : List α} {A : List β}, All2 T R A → ∀ r, r ∈ R → ∃ a, a ∈ A ∧ T r a
  | [], [], _, a, h => by simp at h
  | r :: R, b :: A, k, a, h => by
    rcases List.mem_cons.1 h with q | q
    · subst q; exact ⟨b, by simp, k.1⟩
    · obtain ⟨s, h1, h2⟩ := all2_mem' k.2 a q
      exact ⟨s, by simp [h1], h2⟩
  | [], _ :: _, k, _, _ => k.elim
  | _ :: _, [], k, _, _ => k.elim
theorem All2.imp' {α β : Type} {T U : α → β → Prop} : ∀ {R : List α} {A : List β}, All2 T R A → (∀ r a, r ∈ R → T r a → U r a) → All2 U R A
  | [], [], _, _ => trivial
  | r :: R, a :: A, k, h => ⟨h r a (by simp) k.1, All2.imp' k.2 fun s b hs => h s b (by simp [hs])⟩
  | [], _ :: _, k, _ => k.elim
  | _ :: _, [], k, _ => k.elim
theorem all2_map_r {α β γ : Type} {T : α → γ → Prop} (f : β → γ) : ∀ {R : List α} {A : List β}, All2 (fun r a => T r (f a)) R A → All2 T R (A.map f)
  | [], [], _ => trivial
  | _ :: _, _ :: _, k => ⟨k.1, all2_map_r f k.2⟩
  | [], _ :: _, k => k.elim
  | _ :: _, [], k => k.elim
theorem LInv.start {R : List Ids} : LInv R R [] := by
  refine ⟨?_, List.nodup_nil, by simp⟩
  induction R with
  | nil => trivial
  | cons a R ih => exact ⟨⟨[], rfl, List.nil_sublist _, by simp⟩, ih⟩
/-- Who may come next stands first wherever it is left. -/
theorem LInv.first {R A : List Ids} {out : Ids} (I : LInv R A out) (hn : ∀ a, a ∈ R → a.Nodup) {x : Int × Int} (hok : okF R.flatten A x = true) (hx : x ∉ out) : All2 (fun r a => (∃ p : Ids, r = p ++ a ∧ p.Sublist out ∧ ∀ z, z ∈ a → z ∉ out) ∧ (x ∈ a → a.head? = some x)) R A := by
  have e : cntB (fun a => decide (a.head? = some x)) A = cntB (fun a => decide (x ∈ a)) R := by
    have := of_decide_eq_true hok
    rw [occ_heads, occ_flat x hn] at this
    omega
  have k := cnt_eq (T := fun r a => ∃ p : Ids, r = p ++ a ∧ p.Sublist out ∧ ∀ z, z ∈ a → z ∉ out) (p := fun a => decide (x ∈ a)) (q := fun a => decide (a.head? = some x)) (fun r a ⟨p, h1, h2, h3⟩ hq => by
    have := List.mem_of_mem_head? (of_decide_eq_true hq)
    simp [h1, this]) I.rows e
  exact k.imp fun r a ⟨⟨p, h1, h2, h3⟩, h4⟩ => ⟨⟨p, h1, h2, h3⟩, fun hxa => of_decide_eq_true (h4 (by simp [h1, hxa]))⟩
theorem LInv.step {R A : List Ids} {out : Ids} (I : LInv R A out) (hn : ∀ a, a ∈ R → a.Nodup) {x : Int × Int} (hok : okF R.flatten A x = true) (ha : ∃ a, a ∈ A ∧ a.head? = some x) : x ∉ out ∧ LInv R (A.map (cutF x)) (out ++ [x]) := by
  obtain ⟨a0, ha0, hx0⟩ := ha
  obtain ⟨r0, hr0, p0, e0, s0, n0⟩ := all2_mem I.rows a0 ha0
  have hx : x ∉ out := n0 x (List.mem_of_mem_head? hx0)
  refine ⟨hx, ⟨all2_map_r _ ?_, ?_, ?_⟩⟩
  · refine All2.imp' (I.first hn hok hx) fun r a hr ⟨⟨p, h1, h2, h3⟩, h4⟩ => ?_
    cases a with
    | nil => exact ⟨p, h1, h2.trans (List.sublist_append_left _ _), by simp [cutF]⟩
    | cons y t =>
      by_cases hy : y = x
      · subst hy
        have hnr := hn r hr
        rw [h1] at hnr
        have hyt : y ∉ t := (List.nodup_cons.1 (List.nodup_append.1 hnr).2.1).1
        refine ⟨p ++ [y], by simp [cutF, h1], List.Sublist.append h2 (List.Sublist.refl _), fun z hz => ?_⟩
        simp [cutF] at hz
        simp only [List.mem_append, List.mem_singleton, not_or]
        exact ⟨h3 z (by simp [hz]), fun q => hyt (q ▸ hz)⟩
      · have hxy : x ∉ y :: t := fun q => by
          have := h4 q
          simp at this; exact hy this
        refine ⟨p, by simp [cutF, hy, h1], h2.trans (List.sublist_append_left _ _), fun z hz => ?_⟩
        simp [cutF, hy] at hz
        simp only [List.mem_append, List.mem_singleton, not_or]
        exact ⟨h3 z (by simpa using hz), fun q => hxy (by rw [← q]; simpa using hz)⟩
  · rw [List.nodup_append]
    exact ⟨I.nd, by simp, fun a ha b hb => by simp at hb; subst hb; exact fun q => hx (q ▸ ha)⟩
  · intro z hz
    rcases List.mem_append.1 hz with q | q
    · exact I.sub z q
    · simp at q
      rw [q, List.mem_flatten]
      exact ⟨r0, hr0, by rw [e0]; simp [List.mem_of_mem_head? hx0]⟩

theorem LInv.left {R A : List Ids} {out : Ids} (I : LInv R A out) {z : Int × Int} (hz : z ∈ R.flatten) (ho : z ∉ out) : ∃ a, a ∈ A ∧ z ∈ a := by
  obtain ⟨r, hr, hzr⟩ := List.mem_flatten.1 hz
  obtain ⟨a, ha, p, e, s, n⟩ := all2_mem' I.rows r hr
  rw [e] at hzr
  rcases List.mem_append.1 hzr with q | q
  · exact absurd (s.subset q) ho
  · exact ⟨a, ha, q⟩
theorem lineG_some {R : List Ids} (hn : ∀ a, a ∈ R → a.Nodup) {res : Ids} : ∀ (n : Nat) {A : List Ids} {out : Ids}, LInv R A out → out.length + n = (ddF R.flatten).length → lineG R.flatten n A out = some res → ∃ B, LInv R B res ∧ res.length = (ddF R.flatten).length
  | 0, A, out, I, hl, h => by
    simp only [lineG] at h
    cases h
    exact ⟨A, I, by omega⟩
  | n + 1, A, out, I, hl, h => by
    simp only [lineG] at h
    cases hb : bestG (okF R.flatten A) none A with
    | none => rw [hb] at h; cases h
    | some x =>
      rw [hb] at h
      rcases bestG_some hb with q | ⟨q1, q2⟩
      · cases q
      · obtain ⟨_, I2⟩ := I.step hn q1 q2
        exact lineG_some hn n I2 (by simp; omega) h
/-- A line has all, each once, and each row stands in it. -/
theorem lineF_some {R : List Ids} (hn : ∀ a, a ∈ R → a.Nodup) {res : Ids} (h : lineF R = some res) : res.Nodup ∧ (∀ z, z ∈ res ↔ z ∈ R.flatten) ∧ (∀ a, a ∈ R → a.Sublist res) ∧ res.length = (ddF R.flatten).length := by
  obtain ⟨B, I, hl⟩ := lineG_some hn _ LInv.start (by simp) h
  have hsub : ∀ z, z ∈ R.flatten → z ∈ res := fun z hz => by
    refine Classical.byContradiction fun ho => ?_
    have h1 : (z :: res).Nodup := List.nodup_cons.2 ⟨ho, I.nd⟩
    have h2 := nodup_sub_len (m := ddF R.flatten) h1 fun y hy => by
      rw [mem_ddF]
      rcases List.mem_cons.1 hy with q | q
      · rw [q]; exact hz
      · exact I.sub y q
    simp at h2; omega
  refine ⟨I.nd, fun z => ⟨I.sub z, hsub z⟩, fun a ha => ?_, hl⟩
  obtain ⟨b, hb, p, e, s, n⟩ := all2_mem' I.rows a ha
  have : b = [] := by
    cases b with
    | nil => rfl
    | cons y t =>
      have hy : y ∈ R.flatten := List.mem_flatten.2 ⟨a, ha, by rw [e]; simp⟩
      exact absurd (hsub y hy) (n y (by simp))
  subst this
  rw [e]; simpa using s

/-- Is one ahead of the other one in some row? -/
def aheadR (R : List Ids) (x y : Int × Int) : Prop := ∃ a, a ∈ R ∧ x ∈ a ∧ y ∈ a ∧ idxK a x < idxK a y
/-- There is no line: some that are left have each another one ahead of it. -/
theorem lineG_none {R : List Ids} (hn : ∀ a, a ∈ R → a.Nodup) : ∀ (n : Nat) {A : List Ids} {out : Ids}, LInv R A out → out.length + n = (ddF R.flatten).length → lineG R.flatten n A out = none → ∃ S : Ids, S ≠ [] ∧ (∀ x, x ∈ S → x ∈ R.flatten) ∧ ∀ x, x ∈ S → ∃ y, y ∈ S ∧ aheadR R y x
  | 0, A, out, I, hl, h => by simp only [lineG] at h; cases h
  | n + 1, A, out, I, hl, h => by
    simp only [lineG] at h
    cases hb : bestG (okF R.flatten A) none A with
    | some x =>
      rw [hb] at h
      rcases bestG_some hb with q | ⟨q1, q2⟩
      · cases q
      · obtain ⟨_, I2⟩ := I.step hn q1 q2
        exact lineG_none hn n I2 (by simp; omega) h
    | none =>
      have hl2 := bestG_least (ok := okF R.flatten A) (A := A) (acc := none)
      rw [hb] at hl2
      have hno := hl2.2
      have hin : ∀ a x, a ∈ A → x ∈ a → x ∈ R.flatten := fun a x ha hx => by
        obtain ⟨r, hr, p, e, s, n⟩ := all2_mem I.rows a ha
        exact List.mem_flatten.2 ⟨r, hr, by rw [e]; simp [hx]⟩
      refine ⟨headsF A, ?_, fun x hx => ?_, fun x hx => ?_⟩
      · -- something is left
        intro hnil
        have hall : ∀ z, z ∈ ddF R.flatten → z ∈ out := fun z hz => by
          refine Classical.byContradiction fun ho => ?_
          obtain ⟨a, ha, hza⟩ := I.left ((mem_ddF _ _).1 hz) ho
          cases a with
          | nil => simp at hza
          | cons y t =>
            have : y ∈ headsF A := by
              unfold headsF
              exact List.mem_filterMap.2 ⟨y :: t, ha, rfl⟩
            rw [hnil] at this; simp at this
        have := nodup_sub_len (nodup_ddF R.flatten) hall
        omega
      · obtain ⟨a, ha, hx2⟩ := List.mem_filterMap.1 hx
        exact hin a x ha (List.mem_of_mem_head? hx2)
      · obtain ⟨a, ha, hx2⟩ := List.mem_filterMap.1 hx
        have hxa := List.mem_of_mem_head? hx2
        have hbad := hno a x ha hx2
        -- some row has it, but not first
        have : ∃ b, b ∈ A ∧ x ∈ b ∧ b.head? ≠ some x := by
          refine Classical.byContradiction fun hnb => ?_
          have hxo : x ∉ out := by
            obtain ⟨r, hr, p, e, s, n⟩ := all2_mem I.rows a ha
            exact n x hxa
          have e : cntB (fun a => decide (a.head? = some x)) A = cntB (fun a => decide (x ∈ a)) R := by
            have key : ∀ {R' A' : List Ids}, All2 (fun r a => ∃ p : Ids, r = p ++ a ∧ p.Sublist out ∧ ∀ z, z ∈ a → z ∉ out) R' A' → (∀ a, a ∈ A' → a ∈ A) → cntB (fun a => decide (a.head? = some x)) A' = cntB (fun a => decide (x ∈ a)) R' := by
              intro R' A' k
              induction A' generalizing R' with
              | nil => intro _; cases R' with
                | nil => rfl
                | cons => exact k.elim
              | cons b A' ih => intro hA; cases R' with
                | nil => exact k.elim
                | cons r R' =>
                  rw [cntB_cons, cntB_cons, ih k.2 fun a h => hA a (by simp [h])]
                  congr 1
                  obtain ⟨p, e, s, n⟩ := k.1
                  by_cases hxb : x ∈ b
                  · have hh : b.head? = some x := Classical.byContradiction fun q => hnb ⟨b, hA b (by simp), hxb, q⟩
                    rw [if_pos (decide_eq_true hh), if_pos (decide_eq_true (by rw [e]; simp [hxb]))]
                  · have h1 : ¬ b.head? = some x := fun q => hxb (List.mem_of_mem_head? q)
                    have h2 : x ∉ r := fun q => by
                      rw [e] at q
                      rcases List.mem_append.1 q with z | z
                      · exact hxo (s.subset z)
                      · exact hxb z
                    rw [if_neg (by simpa using h1), if_neg (by simpa using h2)]
            exact key I.rows fun _ h => h
          have : okF R.flatten A x = true := by
            unfold okF
            rw [occ_heads, occ_flat x hn, e]
            simp
          rw [this] at hbad; cases hbad
        obtain ⟨b, hbA, hxb, hhb⟩ := this
        cases b with
        | nil => simp at hxb
        | cons y t =>
          have hyx : y ≠ x := fun q => hhb (by rw [q]; rfl)
          have hxt : x ∈ t := by
            rcases List.mem_cons.1 hxb with q | q
            · exact absurd q.symm hyx
            · exact q
          refine ⟨y, List.mem_filterMap.2 ⟨y :: t, hbA, rfl⟩, ?_⟩
          obtain ⟨r, hr, p, e, s, n⟩ := all2_mem I.rows _ hbA
          have hnr := hn r hr
          obtain ⟨j, hj⟩ := List.mem_iff_getElem?.1 hxt
          have i1 : idxK r y = p.length := idxK_of hnr (by rw [e]; simp)
          have i2 : idxK r x = p.length + (j + 1) := idxK_of hnr (by
            rw [e, List.getElem?_append_right (by omega)]
            have : p.length + (j + 1) - p.length = j + 1 := by omega
            rw [this]; simpa using hj)
          exact ⟨r, hr, by rw [e]; simp, by rw [e]; simp [hxt], by omega⟩
theorem lineF_none {R : List Ids} (hn : ∀ a, a ∈ R → a.Nodup) (h : lineF R = none) : ∃ S : Ids, S ≠ [] ∧ (∀ x, x ∈ S → x ∈ R.flatten) ∧ ∀ x, x ∈ S → ∃ y, y ∈ S ∧ aheadR R y x :=
  lineG_none hn _ LInv.start (by simp) h

/-- Finitely many, of which each has one ahead of it: some are in a ring. -/
theorem has_least {α : Type} {T : α → α → Prop} (tr : ∀ {a b c}, T a b → T b c → T a c) (ir : ∀ a, ¬ T a a) : ∀ (S : List α), S ≠ [] → ∃ m, m ∈ S ∧ ∀ x, x ∈ S → ¬ T x m
  | [], h => absurd rfl h
  | [a], _ => ⟨a, by simp, fun x hx => by simp at hx; subst hx; exact ir x⟩
  | a :: b :: S, _ => by
    obtain ⟨m, hm, hl⟩ := has_least (T := T) (fun h k => tr h k) ir (b :: S) (by simp)
    by_cases k : T a m
    · refine ⟨a, by simp, fun x hx => ?_⟩
      rcases List.mem_cons.1 hx with q | q
      · rw [q]; exact ir a
      · exact fun z => hl x q (tr z k)
    · refine ⟨m, by simp [hm], fun x hx => ?_⟩
      rcases List.mem_cons.1 hx with q | q
      · rw [q]; exact k
      · exact hl x q
theorem ring_of {α : Type} {T : α → α → Prop} {S : List α} (hS : S ≠ []) (h : ∀ x, x ∈ S → ∃ y, y ∈ S ∧ T y x) : ∃ x, Rch T x x := by
  refine Classical.byContradiction fun hno => ?_
  obtain ⟨m, hm, hl⟩ := has_least (T := Rch T) (fun a b => a.trans b) (fun a k => hno ⟨a, k⟩) S hS
  obtain ⟨y, hy, hT⟩ := h m hm
  exact hl y hy (.one hT)
theorem rch_rank {α : Type} {T : α → α → Prop} {f : α → Nat} (h : ∀ x y, T x y → f x < f y) {x y : α} (k : Rch T x y) : f x < f y := by
  induction k with
  | one q => exact h _ _ q
  | step _ q ih => exact Nat.lt_trans ih (h _ _ q)
theorem sub_idx : ∀ {a l : Ids}, a.Sublist l → l.Nodup → ∀ {x y : Int × Int}, x ∈ a → y ∈ a → idxK a x < idxK a y → idxK l x < idxK l y := by
  intro a l s hl x y hx hy hlt
  have ha := s.nodup hl
  -- both are read by pairs
  have key : ∀ {a l : Ids}, a.Sublist l → ∀ {i j : Nat} {x y : Int × Int}, i < j → a[i]? = some x → a[j]? = some y → ∃ p q : Nat, p < q ∧ l[p]? = some x ∧ l[q]? = some y := by
    intro a l s
    induction s with
    | slnil => intro i j x y _ h; simp at h
    | cons c s ih =>
      intro i j x y hij h1 h2
      obtain ⟨p, q, k1, k2, k3⟩ := ih hij h1 h2
      exact ⟨p + 1, q + 1, by omega, by simpa using k2, by simpa using k3⟩
    | cons_cons c s ih =>
      intro i j x y hij h1 h2
      cases j with
      | zero => omega
      | succ j =>
        cases i with
        | zero =>
          simp at h1; subst h1
          have hm := s.subset (List.mem_of_getElem? (by simpa using h2))
          obtain ⟨q, hq⟩ := List.mem_iff_getElem?.1 hm
          exact ⟨0, q + 1, by omega, rfl, by simpa using hq⟩
        | succ i =>
          obtain ⟨p, q, k1, k2, k3⟩ := ih (i := i) (j := j) (x := x) (y := y) (by omega) (by simpa using h1) (by simpa using h2)
          exact ⟨p + 1, q + 1, by omega, by simpa using k2, by simpa using k3⟩
  obtain ⟨p, q, k1, k2, k3⟩ := key s hlt (idx_at hx) (idx_at hy)
  rw [idxK_of hl k2, idxK_of hl k3]; exact k1
/-- A line stands, just where no ring does. -/
theorem line_rank {R : List Ids} (hn : ∀ a, a ∈ R → a.Nodup) {res : Ids} (h : lineF R = some res) {x y : Int × Int} (k : aheadR R x y) : idxK res x < idxK res y := by
  obtain ⟨a, ha, hx, hy, hlt⟩ := k
  obtain ⟨h1, h2, h3, _⟩ := lineF_some hn h
  exact sub_idx (h3 a ha) h1 hx hy hlt
theorem line_ring {R : List Ids} (hn : ∀ a, a ∈ R → a.Nodup) : (lineF R).isSome = false ↔ ∃ x, Rch (aheadR R) x x := by
  constructor
  · intro h
    cases hl : lineF R with
    | some r => rw [hl] at h; cases h
    | none =>
      obtain ⟨S, h1, _, h2⟩ := lineF_none hn hl
      exact ring_of h1 h2
  · rintro ⟨x, hx⟩
    cases hl : lineF R with
    | none => rfl
    | some res =>
      have := rch_rank (f := fun x => idxK res x) (fun x y k => line_rank hn hl k) hx
      omega
theorem Rch.mono {α : Type} {T U : α → α → Prop} (h : ∀ x y, T x y → U x y) {x y : α} (k : Rch T x y) : Rch U x y := by
  induction k with
  | one q => exact .one (h _ _ q)
  | step _ q ih => exact .step ih (h _ _ q)
theorem line_less {R S : List Ids} (hR : ∀ a, a ∈ R → a.Nodup) (hS : ∀ a, a ∈ S → a.Nodup) (h : ∀ a, a ∈ S → a ∈ R) (k : (lineF R).isSome = true) : (lineF S).isSome = true := by
  cases hs : (lineF S).isSome with
  | true => rfl
  | false =>
    obtain ⟨x, hx⟩ := (line_ring hS).1 hs
    have := (line_ring hR).2 ⟨x, hx.mono fun x y ⟨a, ha, q⟩ => ⟨a, h a ha, q⟩⟩
    rw [this] at k; cases k
end Go.Proofs.Ytochkdifpgelmaa

/-! What trace's Line tells. -/
namespace Go.Proofs.Ytochkdifpgelmaa
open Go.Ab

theorem set_mid {α : Type} {f : α → α} {A : List α} {i : Nat} {a : α} (h : A[i]? = some a) : ((A.take i).map f ++ A.drop i)[i]? = some a ∧ ((A.take i).map f ++ A.drop i).set i (f a) = (A.take (i + 1)).map f ++ A.drop (i + 1) := by
  have hc := (List.getElem?_eq_some_iff.1 h).1
  have hlen : ((A.take i).map f).length = i := by simp; omega
  have hdr : A.drop i = a :: A.drop (i + 1) := by
    rw [List.drop_eq_getElem_cons hc]
    rw [List.getElem?_eq_getElem hc] at h
    cases h; rfl
  constructor
  · rw [List.getElem?_append_right (by omega), hlen, hdr]; simp
  · rw [List.set_append_right _ _ (by omega), hlen, hdr, List.take_add_one, h]; simp

theorem twoEq {x y : Int × Int} : (y.1 == x.1 && y.2 == x.2) = decide (y = x) := by
  obtain ⟨a, b⟩ := x
  obtain ⟨c, d⟩ := y
  by_cases q1 : c = a <;> by_cases q2 : d = b <;> simp [q1, q2]

section
variable {X : XTab}
theorem cutL {h h1 g : Heap} {all ov : AVal} {vs : List AVal} {A : List (List (Int × Int))} {out : List (Int × Int)} {x : Int × Int} {bb : Nat} {t : T} (fam : Fam idR h g all vs A) (hl : A.length ≤ 100) (ob : Ob g bb (idC x)) (lo : ∀ b, b ∈ all.blks → b < h1.next) (lv : ∀ v, v ∈ vs → ∀ b, b ∈ v.blks → b < h1.next)
    (go : Gl idR h1 g ov out) (wo : Wr h1 g ov) (ex : Ext [] h g) (t110 : t 110 = all) (t111 : t 111 = I A.length) (t112 : t 112 = I 0) (t4 : t 4 = all) (t12 : t 12 = .ptr bb 0) :
    Tells (fun q => loopN (L_trace_Line_7 Try.prog (acallX Try.prog X q) q) q t g) fun z g' => z.1 = .exit 10 ∧ (∃ vs', Fam idR h g' all vs' (A.map (cutF x)) ∧ ∀ v, v ∈ vs' → ∀ b, b ∈ v.blks → b < h1.next) ∧ Gl idR h1 g' ov out ∧ Wr h1 g' ov ∧ Ext [] h g' ∧ (∀ d cs, Ob g d cs → Ob g' d cs) ∧ g'.next = g.next ∧ ∀ i, i ≤ 17 → z.2 i = t i := by
  refine Tells.loop (fun n t' g' => ∃ (i : Nat) (us : List AVal), t' 112 = I i ∧ i + n = A.length ∧ Fam idR h g' all us ((A.take i).map (cutF x) ++ A.drop i) ∧ (∀ v, v ∈ us → ∀ b, b ∈ v.blks → b < h1.next) ∧ Gl idR h1 g' ov out ∧ Wr h1 g' ov ∧ Ext [] h g' ∧ (∀ d cs, Ob g d cs → Ob g' d cs) ∧ g'.next = g.next ∧
    ∀ i, i ≤ 17 ∨ i = 110 ∨ i = 111 → t' i = t i) ?_ A.length _ _ ?_
  · rintro n u g1 ⟨i, us, u112, hi, fm, lu, go1, wo1, ex1, obs, nx, fr⟩
    have u110 : u 110 = all := (fr 110 (by decide)).trans t110
    have u111 : u 111 = I A.length := (fr 111 (by decide)).trans t111
    have u4 : u 4 = all := (fr 4 (by decide)).trans t4
    have u12 : u 12 = .ptr bb 0 := (fr 12 (by decide)).trans t12
    have ob1 := obs _ _ ob
    refine Tells.prot fun Q2 hQ2 => ?_
    unfold L_trace_Line_7
    simp [u112, u111]
    refine Tells.cb (fun hc => ?_) (fun hc => ?_)
    · simp at hc
      obtain ⟨a, hy⟩ : ∃ a, A[i]? = some a := ⟨_, List.getElem?_eq_getElem hc⟩
      obtain ⟨hat, hset⟩ := set_mid (f := cutF x) hy
      have w : IntKind.i64.wrap ((i : Int) + 1) = i + 1 := wrap_id (by omega) (by omega)
      obtain ⟨v, b1, p, B, hv, q1, q2, q3, gv, wv⟩ := fm.at hat
      have same : cutF x a = a → (A.take i).map (cutF x) ++ A.drop i = (A.take (i + 1)).map (cutF x) ++ A.drop (i + 1) := fun e => by
        rw [← hset, e, set_self hat]
      simp [J_trace_Line_8, u112, u110, q1, q2, q3, gv.1.len]
      cases a with
      | nil =>
        simp [J_trace_Line_9, u112, w]
        refine Tells.ok (hQ2 _ _ (.inl ⟨rfl, n - 1, by omega, i + 1, us, by simp, by omega, by rw [← same rfl]; exact fm, lu, go1, wo1, ex1, obs, nx, fun j hj => ?_⟩))
        simp only [upd]
        repeat rw [if_neg (by omega)]
        exact fr j hj
      | cons z r =>
        obtain ⟨b3, p3, B3, r1, r2, r3, r4, r5, _⟩ := id_at gv.1 (i := 0) (x := z) rfl
        have r1' : ixsR 2 v (.int .i64 0) = some (.ptr b3 p3) := r1
        have hpos : (0 : Int) < ((r.length : Int) + 1) := by omega
        have oe := ob1.1
        simp only [idC] at oe
        simp [hpos, r1', r2, r3, r4, u12, oe, aBin_eql2 two30]
        by_cases hzx : z = x
        · subst hzx
          have hcut : cutF z (z :: r) = (z :: r).drop 1 := by simp [cutF]
          obtain ⟨v', s1, s2, s3⟩ := gl_dropI (n := 2) (lo := 1) gv rfl (by simp)
          have s1' : slcR 2 v (some (.int .i64 1)) none none = some v' := s1
          obtain ⟨b4, p4, g2, m1, m2, m3, m4, m5, m6, m7⟩ := fm.cut id_flat hv s2 s3
          cases q1.symm.trans m1
          rw [← hcut, hset] at m3
          simp [u4, s1', q1, m2, J_trace_Line_9, u112, w]
          refine Tells.ok (hQ2 _ _ (.inl ⟨rfl, n - 1, by omega, i + 1, us.set i v', by simp, by omega, m3, fun v2 hv2 b hb => ?_, ?_, ?_, m4 _ ex1, fun d cs o => m5 d cs (obs d cs o), by rw [m7.next]; exact nx, fun j hj => ?_⟩))
          · rcases List.mem_or_eq_of_mem_set hv2 with k | k
            · exact lu v2 k b hb
            · rw [k, s3] at hb; exact lu v (List.mem_of_getElem? hv) b hb
          · refine go1.extC id_flat m7 (Apart.of fun c hc' => ?_)
            have k1 := (wo1 c hc').1
            have k2 := root_le g1 b1
            have k3 := lo b1 m6
            omega
          · intro c hc'
            obtain ⟨w1, w2, w3⟩ := wo1 c hc'
            refine ⟨?_, by rw [m7.n0]; exact w2, by rw [m7.next]; exact w3⟩
            unfold Heap.root
            rw [m7.cls]
            exact w1
          · simp only [upd]
            repeat rw [if_neg (by omega)]
            exact fr j hj
        · have hzx' : (z.1 == x.1 && z.2 == x.2) = false := by rw [twoEq]; simpa using hzx
          have hcut : cutF x (z :: r) = z :: r := by simp [cutF, hzx]
          have hne : ¬ (z.1 = x.1 ∧ z.2 = x.2) := fun q => hzx (Prod.ext q.1 q.2)
          simp [hzx', hne, J_trace_Line_9, u112, w]
          refine Tells.ok (hQ2 _ _ (.inl ⟨rfl, n - 1, by omega, i + 1, us, by simp, by omega, by rw [← same hcut]; exact fm, lu, go1, wo1, ex1, obs, nx, fun j hj => ?_⟩))
          simp only [upd]
          repeat rw [if_neg (by omega)]
          exact fr j hj
    · simp at hc
      refine Tells.ok (hQ2 _ _ (.inr ⟨by simp, rfl, ⟨us, ?_, lu⟩, go1, wo1, ex1, obs, nx, fun j hj => ?_⟩))
      · rw [List.take_of_length_le (by omega), List.drop_of_length_le (by omega)] at fm
        simpa using fm
      · simp only [upd]
        rw [if_neg (by omega)]
        exact fr j (.inl hj)
  · exact ⟨0, vs, by simp [t112], by omega, by simpa using fam, lv, go, wo, ex, fun _ _ o => o, rfl, fun _ _ => rfl⟩

theorem cut_len (x : Int × Int) (a : List (Int × Int)) : (cutF x a).length ≤ a.length := by
  cases a with
  | nil => simp [cutF]
  | cons y r => simp only [cutF]; split <;> simp
theorem trace_Line (hX : OnlyKnown X) {h : Heap} {v : AVal} {l : List Mk} (o : Sl mkR h v l) (hl : l.length ≤ 100) : Tells (fun q => acallX Try.prog X q F_trace_Line [v] h) fun r h' =>
    ∃ ov, r = .tup [ov, .bool (lineF (rowsF l)).isSome] ∧ Sl idR h' ov ((lineF (rowsF l)).getD []) ∧ Ext [] h h' := by
  refine R_trace_Line _ (hX _ _ rfl) ?_
  refine Tells.prot fun Q' hQ => ?_
  unfold S_trace_Line
  simp
  refine Tells.bind (trace_rows hX o hl) ?_
  rintro all h1 ⟨⟨vs, fam⟩, x1⟩
  have hR := rowsF_len l
  have hrl : ∀ c, c ∈ rowsF l → c.length ≤ 100 := fun c hc => Nat.le_trans (row_len hc) hl
  have hK : (ddF (rowsF l).flatten).length ≤ 10000 := by
    refine Nat.le_trans (ddF_len _) ?_
    have : ∀ R : List (List (Int × Int)), (∀ c, c ∈ R → c.length ≤ 100) → R.flatten.length ≤ R.length * 100 := by
      intro R
      induction R with
      | nil => intro _; simp
      | cons a R ih =>
        intro hc
        have h1 := hc a (by simp)
        have h2 := ih fun c hcc => hc c (by simp [hcc])
        simp only [List.flatten_cons, List.length_append, List.length_cons]
        omega
    have := this _ hrl
    omega
  have hres : lineG (rowsF l).flatten (ddF (rowsF l).flatten).length (rowsF l) [] = lineF (rowsF l) := rfl
  generalize rowsF l = R at *
  have orr := fam.rd
  obtain ⟨m0, x2⟩ := Mp.make (K := kTwo Try.prog 30 two30) h1
  have nx : h1.next < (h1.new true []).next := m0.ob.lt
  simp [orr.len]
  refine Tells.bind (heardO (b := h1.next) (orr.ext x2) (by omega) hrl m0 (by simp) (by simp) (by simp) (by simp)) ?_
  rintro ⟨ex, t0⟩ h2 ⟨rfl, mh, x3, f0⟩
  have k4 : t0 4 = all := (f0 4 (by decide)).trans (by simp)
  have k5 : t0 5 = .mp h1.next := (f0 5 (by decide)).trans (by simp)
  have x13 : Ext [] h1 h2 := x2.then x3 (by simp)
  have blt : ∀ b, b ∈ all.blks → b < h1.next := fun b hb => (fam.wr b hb).2.2
  have vlt : ∀ v, v ∈ vs → ∀ b, b ∈ v.blks → b < h1.next := fun v hv b hb => by
    obtain ⟨i, hi⟩ := List.mem_iff_getElem?.1 hv
    exact fam.fi.lt hi b hb
  have fam2 := fam.e x13
  simp [J_trace_Line_0]
  refine Tells.bind (Tells.loop (fun n t g => ∃ (A : List (List (Int × Int))) (out : List (Int × Int)) (us : List AVal), t 4 = all ∧ t 5 = .mp h1.next ∧ out.length + n = (ddF R.flatten).length ∧ Mp (kTwo Try.prog 30 two30) g h1.next (ddF R.flatten) (occ R.flatten) ∧ Fam idR h g all us A ∧ A.length ≤ 100 ∧
      (∀ v, v ∈ us → ∀ b, b ∈ v.blks → b < h1.next) ∧ Gl idR h1 g (t 10) out ∧ Wr h1 g (t 10) ∧ Ext [] h g ∧ h1.next < g.next ∧ lineG R.flatten n A out = lineF R)
    (Q := fun p g => Ext [] h g ∧ ((p.1 = .exit 4 ∧ ∃ out, lineF R = some out ∧ Sl idR g (p.2 10) out) ∨ (p.1 = .ret ∧ lineF R = none ∧ p.2 2 = .nils ∧ p.2 3 = .bool false))) ?_ (ddF R.flatten).length _ _ ?_) ?_
  · rintro n t g ⟨A, out, us, t4, t5, hn, M, fm, hA, lu, go, wo, x, hgt, hres⟩
    refine Tells.prot fun Q2 hQ2 => ?_
    unfold L_trace_Line_2
    simp [go.1.len, t5, M.len]
    refine Tells.cb (fun hc => ?_) (fun hc => ?_)
    · simp at hc
      obtain ⟨n, rfl⟩ : ∃ k, n = k + 1 := ⟨n - 1, by omega⟩
      simp only [lineG] at hres
      obtain ⟨mn, y1⟩ := Mp.make (K := kTwo Try.prog 30 two30) g
      have lt1 : g.next < (g.new true []).next := mn.ob.lt
      simp [J_trace_Line_3]
      refine Tells.new fun g1 bb ob y2 l2 => ?_
      have fm1 := (fm.e y1).e y2
      have orr1 := fm1.rd
      have hlen := fm1.rd.len
      simp [t4, hlen]
      refine Tells.bind (nextL (b := g.next) orr1 hA (mn.e y2) (by simp) (by simp) (by simp) (by simp)) ?_
      rintro ⟨ex, u⟩ g2 ⟨rfl, mn2, y3, f1⟩
      have u4 : u 4 = all := (f1 4 rfl).trans (by simp [t4])
      have u5 : u 5 = .mp h1.next := (f1 5 rfl).trans (by simp [t5])
      have u11 : u 11 = .mp g.next := (f1 11 rfl).trans (by simp)
      have u12 : u 12 = .ptr bb 0 := (f1 12 rfl).trans (by simp)
      have u13 : u 13 = .bool false := (f1 13 rfl).trans (by simp)
      have nm : ∀ z, z ∈ [g.next] → g1.isM z = true ∨ g1.next ≤ z := fun z hz => by simp at hz; subst hz; exact .inl (mn.e y2).ob.2.1
      have fm2 := fm1.ext y3 nm
      have M2 := ((M.e y1).e y2).ext y3 (by simp; omega)
      have ob2 := ob.ext y3 (by simp; omega)
      have go2 := ((go.e y1).e y2).extO y3 nm
      have wo2 := ((wo.ext y1).ext y2).ext y3
      have x02 := ((x.trans y1).trans y2).then y3 (by simp; have := x.next; omega)
      simp [J_trace_Line_4, u4, fm2.rd.len]
      refine Tells.bind (bestL hX (bn := g.next) (bh := h1.next) (bb := bb) (y0 := (0, 0)) fm2.rd hA mn2 M2 ob2 (by omega) (by omega) (by simp) (by simp) (by simp) (by simp [u11]) (by simp [u5]) (by simp [u12]) (by simp [u13])) ?_
      rintro ⟨ex, w⟩ g3 ⟨rfl, y4, w13, ⟨y, oby, hby⟩, f2⟩
      have w4 : w 4 = all := (f2 4 (by decide)).trans (by simp [u4])
      have w5 : w 5 = .mp h1.next := (f2 5 (by decide)).trans (by simp [u5])
      have w10 : w 10 = t 10 := (f2 10 (by decide)).trans (by simp; exact (f1 10 rfl).trans (by simp))
      have w12 : w 12 = .ptr bb 0 := (f2 12 (by decide)).trans (by simp [u12])
      have nm4 : ∀ z, z ∈ [bb] → g2.isM z = true ∨ g2.next ≤ z := fun z hz => by simp at hz; subst hz; exact .inl ob2.2.1
      have fm3 := fm2.ext y4 nm4
      have M3 := M2.ext y4 (by simp; omega)
      have go3 := go2.extO y4 nm4
      have wo3 := wo2.ext y4
      have x03 := x02.then y4 (by simp; have := x.next; omega)
      have w13' : w 13 = .bool (bestG (okF R.flatten A) none A).isSome := w13
      cases hb : bestG (okF R.flatten A) none A with
      | none =>
        rw [hb] at hres w13'
        simp [J_trace_Line_5, w13']
        exact Tells.ok (hQ2 _ _ (.inr ⟨by simp, x03, .inr ⟨rfl, hres.symm, by simp, by simp⟩⟩))
      | some b =>
        have := hby b hb
        subst this
        rw [hb] at hres w13'
        have oe := oby.1
        simp only [idC] at oe
        simp [J_trace_Line_5, w13', J_trace_Line_6, w10, w12, oe]
        have hol : out.length < 2 ^ 33 := by omega
        have h13 : h1.next ≤ g3.next := by have := y1.next; have := y2.next; have := y3.next; have := y4.next; omega
        refine Tells.app1W (r := idR) (c := [I y.1, I y.2]) (x := y) go3 wo3 (by rfl) (by rfl) (by rfl) (by rfl) (by rfl) hol (by decide) h13 fun ov2 g4 go4 wo4 y5 y5' z5 => ?_
        have own : ∀ b, b ∈ (t 10).blks → h1.next ≤ b := fun b hb => Nat.le_trans (wo3 b hb).1 (root_le g3 b)
        have fm4 := fm3.extD y5 (fun b hb hbo => by have := own b hbo; have := blt b hb; omega) (fun v hv b hb hbo => by have := own b hbo; have := lu v hv b hb; omega)
        have nob : ∀ d cs, Ob g3 d cs → d ∉ (t 10).blks := fun d cs od => go3.1.ob od
        have ob4 := oby.ext y5 (nob _ _ oby)
        have M4 := M3.ext y5 (nob _ _ M3.ob)
        have x04 := x03.then y5 (fun b hb => .inr (by have := own b hb; have := x1.next; omega))
        simp [w4, fm4.rd.len]
        refine Tells.bind (cutL (h1 := h1) (x := y) (bb := bb) fm4 hA ob4 blt lu go4 wo4 x04 (by simp) (by simp) (by simp) (by simp [w4]) (by simp [w12])) ?_
        rintro ⟨ex, w2⟩ g5 ⟨rfl, ⟨us2, fm5, lu5⟩, go5, wo5, x05, obs, nx5, f3⟩
        have w24 : w2 4 = all := (f3 4 (by decide)).trans (by simp [w4])
        have w25 : w2 5 = .mp h1.next := (f3 5 (by decide)).trans (by simp [w5])
        have w210 : w2 10 = ov2 := (f3 10 (by decide)).trans (by simp)
        simp
        refine Tells.ok (hQ2 _ _ (.inl ⟨rfl, n, by omega, A.map (cutF y), out ++ [y], us2, w24, w25, by simp; omega, ⟨obs _ _ M4.ob, M4.nd, M4.out⟩, fm5, by simpa using hA, lu5, by simpa [w210] using go5, by simpa [w210] using wo5, x05, by have := y1.next; have := y2.next; have := y3.next; have := y4.next; have := y5.next; omega, hres⟩))
    · simp at hc
      have : n = 0 := by omega
      subst this
      simp only [lineG] at hres
      exact Tells.ok (hQ2 _ _ (.inr ⟨by simp, x, .inl ⟨rfl, out, hres.symm, by simpa using go.1⟩⟩))
  · exact ⟨R, [], vs, by simp [k4], by simp [k5], by simp, mh, fam2, by omega, vlt, by simpa using Gl.nil, fun b hb => by simp [AVal.blks] at hb, x1.trans x13, by have := x3.next; omega, hres⟩
  · rintro ⟨ex, t⟩ g ⟨x, ⟨rfl, out, ho, so⟩ | ⟨rfl, ho, t2, t3⟩⟩
    · simp [J_trace_Line_1]
      exact Tells.ok (hQ _ _ ⟨t 10, by simp [ho], by simpa [ho] using so, x⟩)
    · have t2' : t 2 = .nils := t2
      have t3' : t 3 = .bool false := t3
      simp [t2', t3']
      exact Tells.ok (hQ _ _ ⟨.nils, by simp [ho], by simpa [ho] using Sl.nil, x⟩)
end
end Go.Proofs.Ytochkdifpgelmaa

/-! TraceCuts. -/
namespace Go.Proofs.Ytochkdifpgelmaa
open Go.Ab

section
variable {X : XTab}
theorem cuts_loop {h0 g : Heap} {v : AVal} {m : List Mk} {who : Int} {t : T} (o : Sl mkR g v m) (hl : m.length ≤ 100) (x0 : Ext [] h0 g) (t7 : t 7 = v) (t2 : t 2 = I who) (t9 : t 9 = .nils) (t10 : t 10 = I 0) :
    Tells (fun q => loopN (L_precentorlaw25_TraceCuts_1 Try.prog (acallX Try.prog X q) q) q t g) fun z g' => z.1 = .exit 0 ∧ Gl mkR h0 g' (z.2 9) (m.filter (lessW who)) ∧ Ext [] g g' ∧ z.2 7 = v ∧ z.2 8 = t 8 := by
  refine Tells.loop (fun n t' g' => ∃ i : Nat, t' 7 = v ∧ t' 8 = t 8 ∧ t' 2 = I who ∧ t' 10 = I i ∧ i + n = m.length ∧ Gl mkR g g' (t' 9) ((m.take i).filter (lessW who)) ∧ Ext [] g g') ?_ m.length _ _ ?_
  · rintro n u g1 ⟨i, u7, u8, u2, u10, hi, go, x⟩
    refine Tells.prot fun Q2 hQ2 => ?_
    unfold L_precentorlaw25_TraceCuts_1
    simp [u10, u7, (o.ext x).len]
    refine Tells.cb (fun hc => ?_) (fun hc => ?_)
    · simp at hc
      obtain ⟨k, hk⟩ : ∃ k, m[i]? = some k := ⟨_, List.getElem?_eq_getElem hc⟩
      obtain ⟨b, p, B, q1, q2, q3, q4, q5, q6, q7, q8, q9⟩ := mk_at (o.ext x) hk
      have htk : m.take (i + 1) = m.take i ++ [k] := by rw [List.take_add_one, hk]; rfl
      have w : IntKind.i64.wrap ((i : Int) + 1) = i + 1 := wrap_id (by omega) (by omega)
      have hfl : ((m.take i).filter (lessW who)).length ≤ 100 := Nat.le_trans (List.length_filter_le _ _) (by simp; omega)
      have app : lessW who k = true → ∀ (u' : T), u' 7 = v → u' 8 = t 8 → u' 2 = I who → u' 10 = I i → True := fun _ _ _ _ _ _ => trivial
      simp [J_precentorlaw25_TraceCuts_2, u7, u10, q1, q2, q6]
      by_cases ks : m.length < 0
      · omega
      by_cases hs : k.sent = true
      · have hw : lessW who k = true := by simp [lessW, hs]
        simp [hs, u7, u10, q1, q2, q3, q4]
        refine Tells.app1 (r := mkR) (c := mkC k) (x := k) go (by simp [mkC, hs]) (by rfl) (by rfl) (by rfl) (by rfl) (by omega) (by decide) x.next fun s' h' go' x' y' z' => ?_
        simp [J_precentorlaw25_TraceCuts_3, u10, w]
        refine Tells.ok (hQ2 _ _ (.inl ⟨rfl, n - 1, by omega, i + 1, by simp [u7], by simp [u8], by simp [u2], by simp, by omega, ?_, y' _ x⟩))
        rw [htk, List.filter_append]
        simpa [List.filter, hw] using go'
      · have hs' : k.sent = false := by simpa using hs
        by_cases hc2 : k.c = who
        · have hw : lessW who k = false := by simp [lessW, hs', hc2]
          have e1 : (k.c != who) = false := by simpa using hc2
          simp [hs', u7, u10, u2, q1, q2, q7, e1, hc2, J_precentorlaw25_TraceCuts_3, w]
          refine Tells.ok (hQ2 _ _ (.inl ⟨rfl, n - 1, by omega, i + 1, by simp [u7], by simp [u8], by simp [u2], by simp, by omega, ?_, x⟩))
          rw [htk, List.filter_append]
          simpa [List.filter, hw] using go
        · have hw : lessW who k = true := by simp [lessW, hc2]
          have e1 : (k.c != who) = true := by simpa using hc2
          simp [hs', u7, u10, u2, q1, q2, q3, q4, q7, e1, hc2]
          refine Tells.app1 (r := mkR) (c := mkC k) (x := k) go (by simp [mkC, hs']) (by rfl) (by rfl) (by rfl) (by rfl) (by omega) (by decide) x.next fun s' h' go' x' y' z' => ?_
          simp [J_precentorlaw25_TraceCuts_3, u10, w]
          refine Tells.ok (hQ2 _ _ (.inl ⟨rfl, n - 1, by omega, i + 1, by simp [u7], by simp [u8], by simp [u2], by simp, by omega, ?_, y' _ x⟩))
          rw [htk, List.filter_append]
          simpa [List.filter, hw] using go'
    · simp at hc
      refine Tells.ok (hQ2 _ _ (.inr ⟨by simp, rfl, ?_, x, by simp [u7], by simp [u8]⟩))
      rw [List.take_of_length_le (by omega)] at go
      simpa using go.back x0.next
  · exact ⟨0, t7, rfl, t2, by simp [t10], by omega, by simpa [t9] using Gl.nil, .refl⟩

theorem cuts_agree {m : List Mk} (h : agreeR (rowsF m) = true) (k : Nat) (who : Int) : agreeR (rowsF (m.take k)) = true ∧ agreeR (rowsF (m.filter (lessW who))) = true := by
  rw [agreeR_iff] at *
  exact ⟨agreeS_take h k, (agreeR_iff _).2 (agreeS_less h who)⟩
theorem cuts_once {m : List Mk} (h : once m = true) (k : Nat) (who : Int) : once (m.take k) = true ∧ once (m.filter (lessW who)) = true :=
  ⟨onceG_take m [] k h, onceG_less who m [] h⟩
theorem cuts_line {m : List Mk} (h : (lineF (rowsF m)).isSome = true) (who : Int) : (lineF (rowsF (m.filter (lessW who)))).isSome = true := by
  refine line_less (R := rowsF m) (fun a ha => nodup_row ha) (fun a ha => nodup_row ha) (fun a ha => ?_) h
  rw [rowsF, List.mem_map] at ha ⊢
  obtain ⟨c, hc, rfl⟩ := ha
  obtain ⟨k, h1, h2, h3⟩ := mem_cliF.1 hc
  obtain ⟨h4, h5⟩ := List.mem_filter.1 h1
  refine ⟨c, mem_cliF.2 ⟨k, h4, h2, h3⟩, ?_⟩
  rw [firF_less, if_neg]
  intro q
  subst q
  simp [lessW, h2, h3] at h5

theorem traceCuts_ (hX : OnlyKnown X) (hk : X F_precentorlaw25_known [] = some (.bool true)) {h : Heap} {v1 : AVal} {xs1 : List Int} (r1 : RawInts h v1 xs1) (x2 : Int) (r2 : In64 x2) (x3 : Int) (r3 : In64 x3) : Tells (fun q => acallX Try.prog X q F_precentorlaw25_TraceCuts [v1, I x2, I x3] h) fun v _ => v = .bool true := by
  refine R_precentorlaw25_TraceCuts _ _ _ (hX _ _ rfl) ?_
  refine Tells.prot fun Q' hQ => ?_
  unfold S_precentorlaw25_TraceCuts
  simp
  refine Tells.bind (law_marks hX (odd := false) r1 (.inl (Sl.nil (r := mkR)))) ?_
  rintro mv g1 ⟨gm, wm, x1⟩
  have hml := marksL_len xs1 [] false
  generalize marksL xs1 [] false = m at *
  have w1 : IntKind.i64.wrap ((m.length : Int) + 1) = m.length + 1 := wrap_id (by omega) (by omega)
  have pk0 := pick_lo x2 (m.length + 1)
  have pk1 := pick_hi x2 (m.length + 1) (by omega)
  have pw0 := pick_lo x3 3
  have pw1 := pick_hi x3 3 (by decide)
  simp [gm.1.len, w1]
  refine Tells.bind (Pick hX x2 _ ⟨by omega, by omega⟩ g1) ?_
  rintro _ g1 ⟨rfl, rfl⟩
  try simp
  refine Tells.bind (Pick hX x3 3 ⟨by decide, by decide⟩ g1) ?_
  rintro _ g1 ⟨rfl, rfl⟩
  obtain ⟨k, hkk⟩ : ∃ k : Nat, pick x2 (m.length + 1) = k := ⟨(pick x2 (m.length + 1)).toNat, by omega⟩
  rw [hkk] at pk0 pk1 ⊢
  generalize pick x3 3 = pw at *
  have w2 : IntKind.i64.wrap (1 + pw) = 1 + pw := wrap_id (by omega) (by omega)
  simp [w2]
  refine Tells.bind (cuts_loop (h0 := g1) (who := 1 + pw) gm.1 (by omega) .refl (by simp) (by simp) (by simp) (by simp)) ?_
  rintro ⟨ex, t⟩ g2 ⟨rfl, gl', x2', t7', t8'⟩
  have t7 : t 7 = mv := t7'
  have t8 : t 8 = I k := t8'
  have gl : Gl mkR g1 g2 (t 9) (m.filter (lessW (1 + pw))) := gl'
  clear gl' t7' t8'
  have hfl : (m.filter (lessW (1 + pw))).length ≤ 100 := Nat.le_trans (List.length_filter_le _ _) (by omega)
  have om := gm.1.ext x2'
  generalize hwho : 1 + pw = who at *
  have ca := fun h => cuts_agree (m := m) h k who
  have co := fun h => cuts_once (m := m) h k who
  have cl := fun h => cuts_line (m := m) h who
  simp [J_precentorlaw25_TraceCuts_0, t7]
  refine Tells.bind (trace_Line hX om (by omega)) ?_
  rintro _ g3 ⟨ov, rfl, _, y3⟩
  try simp
  refine Tells.bind (trace_Line hX (gl.1.ext y3) hfl) ?_
  rintro _ g4 ⟨ov2, rfl, _, y4⟩
  generalize (lineF (rowsF m)).isSome = lb at *
  generalize (lineF (rowsF (m.filter (lessW who)))).isSome = lb2 at *
  try simp
  refine Tells.bind (known_X hk g4) ?_
  rintro _ g4 ⟨rfl, rfl⟩
  have om4 := (om.ext y3).ext y4
  have ol4 := (gl.1.ext y3).ext y4
  simp [t7]
  refine Tells.bind (trace_Agree hX om4 (by omega)) ?_
  rintro _ g5 ⟨rfl, y5⟩
  -- whether all are said, from here on
  obtain ⟨tv, s1, s2, s3⟩ := om4.takeR (n := 4) rfl (hi := k) (by omega)
  have htl : (m.take k).length ≤ 100 := by simp; omega
  cases hA : agreeR (rowsF m) with
  | false =>
    simp [hA, t7]
    refine Tells.bind (trace_Once hX (om4.ext y5) (by omega)) ?_
    rintro _ g8 ⟨rfl, y8⟩
    cases hO : once m with
    | false =>
      simp
      cases hL : lb with
      | false => simp; exact Tells.ok (hQ _ _ rfl)
      | true => have := cl hL; subst this; simp; exact Tells.ok (hQ _ _ rfl)
    | true =>
      obtain ⟨co1, co2⟩ := co hO
      simp [t7, t8, s1]
      refine Tells.bind (trace_Once hX ((s2.ext y5).ext y8) htl) ?_
      rintro _ g9 ⟨rfl, y9⟩
      simp [co1]
      refine Tells.bind (trace_Once hX (((ol4.ext y5).ext y8).ext y9) hfl) ?_
      rintro _ g10 ⟨rfl, y10⟩
      simp [co2]
      cases hL : lb with
      | false => simp; exact Tells.ok (hQ _ _ rfl)
      | true => have := cl hL; subst this; simp; exact Tells.ok (hQ _ _ rfl)
  | true =>
    obtain ⟨ca1, ca2⟩ := ca hA
    simp [hA, t7, t8, s1]
    refine Tells.bind (trace_Agree hX (s2.ext y5) htl) ?_
    rintro _ g6 ⟨rfl, y6⟩
    simp [ca1]
    refine Tells.bind (trace_Agree hX ((ol4.ext y5).ext y6) hfl) ?_
    rintro _ g7 ⟨rfl, y7⟩
    simp [hA, ca2, t7]
    refine Tells.bind (trace_Once hX (((om4.ext y5).ext y6).ext y7) (by omega)) ?_
    rintro _ g8 ⟨rfl, y8⟩
    cases hO : once m with
    | false =>
      simp
      cases hL : lb with
      | false => simp; exact Tells.ok (hQ _ _ rfl)
      | true => have := cl hL; subst this; simp; exact Tells.ok (hQ _ _ rfl)
    | true =>
      obtain ⟨co1, co2⟩ := co hO
      simp [t7, t8, s1]
      refine Tells.bind (trace_Once hX ((((s2.ext y5).ext y6).ext y7).ext y8) htl) ?_
      rintro _ g9 ⟨rfl, y9⟩
      simp [co1]
      refine Tells.bind (trace_Once hX (((((ol4.ext y5).ext y6).ext y7).ext y8).ext y9) hfl) ?_
      rintro _ g10 ⟨rfl, y10⟩
      simp [co2]
      cases hL : lb with
      | false => simp; exact Tells.ok (hQ _ _ rfl)
      | true => have := cl hL; subst this; simp; exact Tells.ok (hQ _ _ rfl)
end
end Go.Proofs.Ytochkdifpgelmaa
