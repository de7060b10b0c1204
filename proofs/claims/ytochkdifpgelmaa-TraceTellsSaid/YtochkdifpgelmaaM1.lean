/-
  Texts of a claim, merged: TrL, HandP, TrM, Trc8, Law25b, Trf1, Trf2.
-/
import Derived.Test.YtochkdifpgelmaaM0
import Derived.Test.YtochkdifpgelmaaB1
import Derived.Test.YtochkdifpgelmaaSprecentorhand
import Derived.Test.YtochkdifpgelmaaArg0
import Derived.Test.YtochkdifpgelmaaSprecentorlaw25
import Derived.Test.YtochkdifpgelmaaSprecentorref23
set_option linter.unusedVariables false
set_option linter.unusedSimpArgs false
/-! Plain laws of what trace tells: a line, or none. -/
namespace Go.Proofs.Ytochkdifpgelmaa
open Go.Ab

def cntB {α : Type} (p : α → Bool) (l : List α) : Nat := (l.filter p).length
theorem cntB_cons {α : Type} (p : α → Bool) (a : α) (l : List α) : cntB p (a :: l) = (if p a = true then 1 else 0) + cntB p l := by
  unfold cntB
  cases h : p a
  · rw [List.filter_cons_of_neg (by simp [h])]; simp
  · rw [List.filter_cons_of_pos h]; simp; omega
section
variable {α β : Type} {T : α → β → Prop} {p : α → Bool} {q : β → Bool}
theorem cnt_le (h : ∀ r a, T r a → q a = true → p r = true) : ∀ {R : List α} {A : List β}, All2 T R A → cntB q A ≤ cntB p R
  | [], [], _ => Nat.le_refl _
  | r :: R, a :: A, k => by
    have ih := cnt_le h k.2
    rw [cntB_cons, cntB_cons]
    have := h r a k.1
    split
    · rename_i hq; rw [if_pos (this hq)]; omega
    · split <;> omega
  | [], _ :: _, k => k.elim
  | _ :: _, [], k => k.elim
theorem cnt_eq (h : ∀ r a, T r a → q a = true → p r = true) : ∀ {R : List α} {A : List β}, All2 T R A → cntB q A = cntB p R → All2 (fun r a => T r a ∧ (p r = true → q a = true)) R A
  | [], [], _, _ => trivial
  | r :: R, a :: A, k, e => by
    have h1 := cnt_le h k.2
    have h2 := h r a k.1
    rw [cntB_cons, cntB_cons] at e
    by_cases hq : q a = true
    · rw [if_pos hq, if_pos (h2 hq)] at e
      exact ⟨⟨k.1, fun _ => hq⟩, cnt_eq h k.2 (by omega)⟩
    · rw [if_neg hq] at e
      by_cases hp : p r = true
      · rw [if_pos hp] at e; omega
      · rw [if_neg hp] at e
        exact ⟨⟨k.1, fun z => absurd z hp⟩, cnt_eq h k.2 (by omega)⟩
  | [], _ :: _, k, _ => k.elim
  | _ :: _, [], k, _ => k.elim
end
theorem occ_heads (x : Int × Int) : ∀ A : List Ids, occ (headsF A) x = (cntB (fun a => decide (a.head? = some x)) A : Nat)
  | [] => by simp [occ, headsF, cntB]
  | a :: A => by
    have ih := occ_heads x A
    rw [cntB_cons]
    unfold occ headsF at ih ⊢
    cases a with
    | nil =>
      rw [List.filterMap_cons_none rfl, if_neg (by simp), Nat.zero_add]
      exact ih
    | cons y r =>
      rw [show List.filterMap List.head? ((y :: r) :: A) = y :: List.filterMap List.head? A from rfl]
      by_cases hy : y = x
      · subst hy
        rw [List.filter_cons_of_pos (by simp), List.length_cons, if_pos (by simp)]
        omega
      · rw [List.filter_cons_of_neg (by simpa using hy), if_neg (by simpa using hy)]
        omega
theorem occ_nodup {x : Int × Int} : ∀ {a : Ids}, a.Nodup → occ a x = if x ∈ a then 1 else 0
  | [], _ => by simp [occ]
  | y :: r, h => by
    obtain ⟨h1, h2⟩ := List.nodup_cons.1 h
    have ih := occ_nodup (x := x) h2
    unfold occ at ih ⊢
    by_cases hy : y = x
    · subst hy
      rw [List.filter_cons_of_pos (by simp), if_pos (by simp)]
      rw [if_neg h1] at ih
      rw [List.length_cons]; omega
    · rw [List.filter_cons_of_neg (by simpa using hy), ih]
      have : x ≠ y := fun q => hy q.symm
      simp [this]
theorem occ_flat (x : Int × Int) : ∀ {R : List Ids}, (∀ a, a ∈ R → a.Nodup) → occ R.flatten x = (cntB (fun a => decide (x ∈ a)) R : Nat)
  | [], _ => by simp [occ, cntB]
  | a :: R, h => by
    have ih := occ_flat x (R := R) fun b hb => h b (by simp [hb])
    have ha := occ_nodup (x := x) (h a (by simp))
    rw [cntB_cons]
    unfold occ at ih ha ⊢
    rw [List.flatten_cons, List.filter_append, List.length_append]
    by_cases hx : x ∈ a
    · rw [if_pos hx] at ha; rw [if_pos (decide_eq_true hx)]; omega
    · rw [if_neg hx] at ha; rw [if_neg (by simpa using hx)]; omega

/-! ### who is next -/

theorem bestG_some {ok : Int × Int → Bool} {x : Int × Int} : ∀ {A : List Ids} {acc : Option (Int × Int)}, bestG ok acc A = some x → acc = some x ∨ (ok x = true ∧ ∃ a, a ∈ A ∧ a.head? = some x)
  | [], acc, h => .inl h
  | [] :: A, acc, h => by
    rcases bestG_some (A := A) (acc := acc) h with q | ⟨q1, a, q2, q3⟩
    · exact .inl q
    · exact .inr ⟨q1, a, by simp [q2], q3⟩
  | (y :: r) :: A, acc, h => by
    simp only [bestG] at h
    rcases bestG_some h with q | ⟨q1, a, q2, q3⟩
    · split at q
      · rename_i k; cases q; exact .inr ⟨k.1, _, List.mem_cons_self .., rfl⟩
      · exact .inl q
    · exact .inr ⟨q1, a, by simp [q2], q3⟩
/-- The least of those that may come. -/
theorem bestG_least {ok : Int × Int → Bool} : ∀ {A : List Ids} {acc : Option (Int × Int)}, match bestG ok acc A with
    | none => acc = none ∧ ∀ a x, a ∈ A → a.head? = some x → ok x = false
    | some y => (∀ z, acc = some z → z = y ∨ lt2 y z = true) ∧ ∀ a x, a ∈ A → a.head? = some x → ok x = true → x = y ∨ lt2 y x = true
  | [], acc => by
    cases acc with
    | none => exact ⟨rfl, fun a x h => by simp at h⟩
    | some z => exact ⟨fun w h => .inl (by cases h; rfl), fun a x h => by simp at h⟩
  | [] :: A, acc => by
    have ih := bestG_least (ok := ok) (A := A) (acc := acc)
    simp only [bestG]
    cases hb : bestG ok acc A with
    | none =>
      rw [hb] at ih
      refine ⟨ih.1, fun a x ha hx => ?_⟩
      rcases List.mem_cons.1 ha with q | q
      · subst q; simp at hx
      · exact ih.2 a x q hx
    | some y =>
      rw [hb] at ih
      refine ⟨ih.1, fun a x ha hx => ?_⟩
      rcases List.mem_cons.1 ha with q | q
      · subst q; simp at hx
      · exact ih.2 a x q hx
  | (z :: r) :: A, acc => by
    have ih := bestG_least (ok := ok) (A := A) (acc := if ok z = true ∧ less1 z acc = true then some z else acc)
    simp only [bestG]
    cases hb : bestG ok (if ok z = true ∧ less1 z acc = true then some z else acc) A with
    | none =>
      rw [hb] at ih
      obtain ⟨h1, h2⟩ := ih
      split at h1
      · cases h1
      · rename_i hk
        refine ⟨h1, fun a x ha hx => ?_⟩
        rcases List.mem_cons.1 ha with q | q
        · subst q
          simp at hx; subst hx
          cases ho : ok z with
          | false => rfl
          | true => exact absurd ⟨ho, by rw [h1]; rfl⟩ hk
        · exact h2 a x q hx
    | some y =>
      rw [hb] at ih
      obtain ⟨h1, h2⟩ := ih
      by_cases hk : ok z = true ∧ less1 z acc = true
      · rw [if_pos hk] at h1
        have hz := h1 z rfl
        refine ⟨fun w hw => ?_, fun a x ha hx ho => ?_⟩
        · have : lt2 z w = true := by have := hk.2; rw [hw] at this; exact this
          right
          rcases hz with q | q
          · rw [← q]; exact this
          · exact lt2_trans q this
        · rcases List.mem_cons.1 ha with q | q
          · subst q
            simp at hx; subst hx; exact hz
          · exact h2 a x q hx ho
      · rw [if_neg hk] at h1
        refine ⟨h1, fun a x ha hx ho => ?_⟩
        rcases List.mem_cons.1 ha with q | q
        · subst q
          simp at hx; subst hx
          -- it is not less than what was there
          cases hacc : acc with
          | none => exact absurd ⟨ho, by rw [hacc]; rfl⟩ hk
          | some w =>
            have hnl : lt2 z w = false := by
              cases hl : lt2 z w with
              | false => rfl
              | true => exact absurd ⟨ho, by rw [hacc]; exact hl⟩ hk
            have hw := h1 w hacc
            by_cases hzw : z = w
            · rw [hzw]; exact hw
            · have := lt2_total hnl hzw
              right
              rcases hw with q | q
              · rw [← q]; exact this
              · exact lt2_trans q this
        · exact h2 a x q hx ho

/-! ### what is left -/

structure LInv (R A : List Ids) (out : Ids) : Prop where
  rows : All2 (fun r a => ∃ p : Ids, r = p ++ a ∧ p.Sublist out ∧ ∀ z, z ∈ a → z ∉ out) R A
  nd : out.Nodup
  sub : ∀ z, z ∈ out → z ∈ R.flatten
theorem all2_mem {α β : Type} {T : α → β → Prop} : ∀ {R : List α} {A : List β}, All2 T R A → ∀ a, a ∈ A → ∃ r, r ∈ R ∧ T r a
  | [], [], _, a, h => by simp at h
  | r :: R, b :: A, k, a, h => by
    rcases List.mem_cons.1 h with q | q
    · subst q; exact ⟨r, by simp, k.1⟩
    · obtain ⟨s, h1, h2⟩ := all2_mem k.2 a q
      exact ⟨s, by simp [h1], h2⟩
  | [], _ :: _, k, _, _ => k.elim
  | _ :: _, [], k, _, _ => k.elim
theorem all2_mem' {α β : Type} {T : α → β → Prop} : ∀ {R : List α} {A : List β}, All2 T R A → ∀ r, r ∈ R → ∃ a, a ∈ A ∧ T r a
  | [], [], _, a, h => by simp at h
  | r :: R, b :: A, k, a, h => by
    rcases List.mem_cons.1 h with q | q
    · subst q; exact ⟨b, by simp, k.1⟩
    · obtain ⟨s, h1, h2⟩ := all2_mem' k.2 a q
      exact ⟨s, by simp [h1], h2⟩
  | [], _ :: _, k, _, _ => k.elim
  | _ :: _, [], k, _, _ => k.elim
theorem All2.imp' {α β : Type} {T U : α → β → Prop} : ∀ {R : List α} {A : List β}, All2 T R A → (∀ r a, r ∈ R → T r a → U r a) → All2 U R A
  | [], [], _, _ => trivial
  | r :: R, a :: A, k, h => ⟨h r a (by simp) k.1, All2.imp' k.2 fun s b hs => h s b (by simp [hs])⟩
  | [], _ :: _, k, _ => k.elim
  | _ :: _, [], k, _ => k.elim
theorem all2_map_r {α β γ : Type} {T : α → γ → Prop} (f : β → γ) : ∀ {R : List α} {A : List β}, All2 (fun r a => T r (f a)) R A → All2 T R (A.map f)
  | [], [], _ => trivial
  | _ :: _, _ :: _, k => ⟨k.1, all2_map_r f k.2⟩
  | [], _ :: _, k => k.elim
  | _ :: _, [], k => k.elim
theorem LInv.start {R : List Ids} : LInv R R [] := by
  refine ⟨?_, List.nodup_nil, by simp⟩
  induction R with
  | nil => trivial
  | cons a R ih => exact ⟨⟨[], rfl, List.nil_sublist _, by simp⟩, ih⟩
/-- Who may come next stands first wherever it is left. -/
theorem LInv.first {R A : List Ids} {out : Ids} (I : LInv R A out) (hn : ∀ a, a ∈ R → a.Nodup) {x : Int × Int} (hok : okF R.flatten A x = true) (hx : x ∉ out) : All2 (fun r a => (∃ p : Ids, r = p ++ a ∧ p.Sublist out ∧ ∀ z, z ∈ a → z ∉ out) ∧ (x ∈ a → a.head? = some x)) R A := by
  have e : cntB (fun a => decide (a.head? = some x)) A = cntB (fun a => decide (x ∈ a)) R := by
    have := of_decide_eq_true hok
    rw [occ_heads, occ_flat x hn] at this
    omega
  have k := cnt_eq (T := fun r a => ∃ p : Ids, r = p ++ a ∧ p.Sublist out ∧ ∀ z, z ∈ a → z ∉ out) (p := fun a => decide (x ∈ a)) (q := fun a => decide (a.head? = some x)) (fun r a ⟨p, h1, h2, h3⟩ hq => by
    have := List.mem_of_mem_head? (of_decide_eq_true hq)
    simp [h1, this]) I.rows e
  exact k.imp fun r a ⟨⟨p, h1, h2, h3⟩, h4⟩ => ⟨⟨p, h1, h2, h3⟩, fun hxa => of_decide_eq_true (h4 (by simp [h1, hxa]))⟩
theorem LInv.step {R A : List Ids} {out : Ids} (I : LInv R A out) (hn : ∀ a, a ∈ R → a.Nodup) {x : Int × Int} (hok : okF R.flatten A x = true) (ha : ∃ a, a ∈ A ∧ a.head? = some x) : x ∉ out ∧ LInv R (A.map (cutF x)) (out ++ [x]) := by
  obtain ⟨a0, ha0, hx0⟩ := ha
  obtain ⟨r0, hr0, p0, e0, s0, n0⟩ := all2_mem I.rows a0 ha0
  have hx : x ∉ out := n0 x (List.mem_of_mem_head? hx0)
  refine ⟨hx, ⟨all2_map_r _ ?_, ?_, ?_⟩⟩
  · refine All2.imp' (I.first hn hok hx) fun r a hr ⟨⟨p, h1, h2, h3⟩, h4⟩ => ?_
    cases a with
    | nil => exact ⟨p, h1, h2.trans (List.sublist_append_left _ _), by simp [cutF]⟩
    | cons y t =>
      by_cases hy : y = x
      · subst hy
        have hnr := hn r hr
        rw [h1] at hnr
        have hyt : y ∉ t := (List.nodup_cons.1 (List.nodup_append.1 hnr).2.1).1
        refine ⟨p ++ [y], by simp [cutF, h1], List.Sublist.append h2 (List.Sublist.refl _), fun z hz => ?_⟩
        simp [cutF] at hz
        simp only [List.mem_append, List.mem_singleton, not_or]
        exact ⟨h3 z (by simp [hz]), fun q => hyt (q ▸ hz)⟩
      · have hxy : x ∉ y :: t := fun q => by
          have := h4 q
          simp at this; exact hy this
        refine ⟨p, by simp [cutF, hy, h1], h2.trans (List.sublist_append_left _ _), fun z hz => ?_⟩
        simp [cutF, hy] at hz
        simp only [List.mem_append, List.mem_singleton, not_or]
        exact ⟨h3 z (by simpa using hz), fun q => hxy (by rw [← q]; simpa using hz)⟩
  · rw [List.nodup_append]
    exact ⟨I.nd, by simp, fun a ha b hb => by simp at hb; subst hb; exact fun q => hx (q ▸ ha)⟩
  · intro z hz
    rcases List.mem_append.1 hz with q | q
    · exact I.sub z q
    · simp at q
      rw [q, List.mem_flatten]
      exact ⟨r0, hr0, by rw [e0]; simp [List.mem_of_mem_head? hx0]⟩

theorem LInv.left {R A : List Ids} {out : Ids} (I : LInv R A out) {z : Int × Int} (hz : z ∈ R.flatten) (ho : z ∉ out) : ∃ a, a ∈ A ∧ z ∈ a := by
  obtain ⟨r, hr, hzr⟩ := List.mem_flatten.1 hz
  obtain ⟨a, ha, p, e, s, n⟩ := all2_mem' I.rows r hr
  rw [e] at hzr
  rcases List.mem_append.1 hzr with q | q
  · exact absurd (s.subset q) ho
  · exact ⟨a, ha, q⟩
theorem lineG_some {R : List Ids} (hn : ∀ a, a ∈ R → a.Nodup) {res : Ids} : ∀ (n : Nat) {A : List Ids} {out : Ids}, LInv R A out → out.length + n = (ddF R.flatten).length → lineG R.flatten n A out = some res → ∃ B, LInv R B res ∧ res.length = (ddF R.flatten).length
  | 0, A, out, I, hl, h => by
    simp only [lineG] at h
    cases h
    exact ⟨A, I, by omega⟩
  | n + 1, A, out, I, hl, h => by
    simp only [lineG] at h
    cases hb : bestG (okF R.flatten A) none A with
    | none => rw [hb] at h; cases h
    | some x =>
      rw [hb] at h
      rcases bestG_some hb with q | ⟨q1, q2⟩
      · cases q
      · obtain ⟨_, I2⟩ := I.step hn q1 q2
        exact lineG_some hn n I2 (by simp; omega) h
/-- A line has all, each once, and each row stands in it. -/
theorem lineF_some {R : List Ids} (hn : ∀ a, a ∈ R → a.Nodup) {res : Ids} (h : lineF R = some res) : res.Nodup ∧ (∀ z, z ∈ res ↔ z ∈ R.flatten) ∧ (∀ a, a ∈ R → a.Sublist res) ∧ res.length = (ddF R.flatten).length := by
  obtain ⟨B, I, hl⟩ := lineG_some hn _ LInv.start (by simp) h
  have hsub : ∀ z, z ∈ R.flatten → z ∈ res := fun z hz => by
    refine Classical.byContradiction fun ho => ?_
    have h1 : (z :: res).Nodup := List.nodup_cons.2 ⟨ho, I.nd⟩
    have h2 := nodup_sub_len (m := ddF R.flatten) h1 fun y hy => by
      rw [mem_ddF]
      rcases List.mem_cons.1 hy with q | q
      · rw [q]; exact hz
      · exact I.sub y q
    simp at h2; omega
  refine ⟨I.nd, fun z => ⟨I.sub z, hsub z⟩, fun a ha => ?_, hl⟩
  obtain ⟨b, hb, p, e, s, n⟩ := all2_mem' I.rows a ha
  have : b = [] := by
    cases b with
    | nil => rfl
    | cons y t =>
      have hy : y ∈ R.flatten := List.mem_flatten.2 ⟨a, ha, by rw [e]; simp⟩
      exact absurd (hsub y hy) (n y (by simp))
  subst this
  rw [e]; simpa using s

/-- Is one ahead of the other one in some row? -/
def aheadR (R : List Ids) (x y : Int × Int) : Prop := ∃ a, a ∈ R ∧ x ∈ a ∧ y ∈ a ∧ idxK a x < idxK a y
/-- There is no line: some that are left have each another one ahead of it. -/
theorem lineG_none {R : List Ids} (hn : ∀ a, a ∈ R → a.Nodup) : ∀ (n : Nat) {A : List Ids} {out : Ids}, LInv R A out → out.length + n = (ddF R.flatten).length → lineG R.flatten n A out = none → ∃ S : Ids, S ≠ [] ∧ (∀ x, x ∈ S → x ∈ R.flatten) ∧ ∀ x, x ∈ S → ∃ y, y ∈ S ∧ aheadR R y x
  | 0, A, out, I, hl, h => by simp only [lineG] at h; cases h
  | n + 1, A, out, I, hl, h => by
    simp only [lineG] at h
    cases hb : bestG (okF R.flatten A) none A with
    | some x =>
      rw [hb] at h
      rcases bestG_some hb with q | ⟨q1, q2⟩
      · cases q
      · obtain ⟨_, I2⟩ := I.step hn q1 q2
        exact lineG_none hn n I2 (by simp; omega) h
    | none =>
      have hl2 := bestG_least (ok := okF R.flatten A) (A := A) (acc := none)
      rw [hb] at hl2
      have hno := hl2.2
      have hin : ∀ a x, a ∈ A → x ∈ a → x ∈ R.flatten := fun a x ha hx => by
        obtain ⟨r, hr, p, e, s, n⟩ := all2_mem I.rows a ha
        exact List.mem_flatten.2 ⟨r, hr, by rw [e]; simp [hx]⟩
      refine ⟨headsF A, ?_, fun x hx => ?_, fun x hx => ?_⟩
      · -- something is left
        intro hnil
        have hall : ∀ z, z ∈ ddF R.flatten → z ∈ out := fun z hz => by
          refine Classical.byContradiction fun ho => ?_
          obtain ⟨a, ha, hza⟩ := I.left ((mem_ddF _ _).1 hz) ho
          cases a with
          | nil => simp at hza
          | cons y t =>
            have : y ∈ headsF A := by
              unfold headsF
              exact List.mem_filterMap.2 ⟨y :: t, ha, rfl⟩
            rw [hnil] at this; simp at this
        have := nodup_sub_len (nodup_ddF R.flatten) hall
        omega
      · obtain ⟨a, ha, hx2⟩ := List.mem_filterMap.1 hx
        exact hin a x ha (List.mem_of_mem_head? hx2)
      · obtain ⟨a, ha, hx2⟩ := List.mem_filterMap.1 hx
        have hxa := List.mem_of_mem_head? hx2
        have hbad := hno a x ha hx2
        -- some row has it, but not first
        have : ∃ b, b ∈ A ∧ x ∈ b ∧ b.head? ≠ some x := by
          refine Classical.byContradiction fun hnb => ?_
          have hxo : x ∉ out := by
            obtain ⟨r, hr, p, e, s, n⟩ := all2_mem I.rows a ha
            exact n x hxa
          have e : cntB (fun a => decide (a.head? = some x)) A = cntB (fun a => decide (x ∈ a)) R := by
            have key : ∀ {R' A' : List Ids}, All2 (fun r a => ∃ p : Ids, r = p ++ a ∧ p.Sublist out ∧ ∀ z, z ∈ a → z ∉ out) R' A' → (∀ a, a ∈ A' → a ∈ A) → cntB (fun a => decide (a.head? = some x)) A' = cntB (fun a => decide (x ∈ a)) R' := by
              intro R' A' k
              induction A' generalizing R' with
              | nil => intro _; cases R' with
                | nil => rfl
                | cons => exact k.elim
              | cons b A' ih => intro hA; cases R' with
                | nil => exact k.elim
                | cons r R' =>
                  rw [cntB_cons, cntB_cons, ih k.2 fun a h => hA a (by simp [h])]
                  congr 1
                  obtain ⟨p, e, s, n⟩ := k.1
                  by_cases hxb : x ∈ b
                  · have hh : b.head? = some x := Classical.byContradiction fun q => hnb ⟨b, hA b (by simp), hxb, q⟩
                    rw [if_pos (decide_eq_true hh), if_pos (decide_eq_true (by rw [e]; simp [hxb]))]
                  · have h1 : ¬ b.head? = some x := fun q => hxb (List.mem_of_mem_head? q)
                    have h2 : x ∉ r := fun q => by
                      rw [e] at q
                      rcases List.mem_append.1 q with z | z
                      · exact hxo (s.subset z)
                      · exact hxb z
                    rw [if_neg (by simpa using h1), if_neg (by simpa using h2)]
            exact key I.rows fun _ h => h
          have : okF R.flatten A x = true := by
            unfold okF
            rw [occ_heads, occ_flat x hn, e]
            simp
          rw [this] at hbad; cases hbad
        obtain ⟨b, hbA, hxb, hhb⟩ := this
        cases b with
        | nil => simp at hxb
        | cons y t =>
          have hyx : y ≠ x := fun q => hhb (by rw [q]; rfl)
          have hxt : x ∈ t := by
            rcases List.mem_cons.1 hxb with q | q
            · exact absurd q.symm hyx
            · exact q
          refine ⟨y, List.mem_filterMap.2 ⟨y :: t, hbA, rfl⟩, ?_⟩
          obtain ⟨r, hr, p, e, s, n⟩ := all2_mem I.rows _ hbA
          have hnr := hn r hr
          obtain ⟨j, hj⟩ := List.mem_iff_getElem?.1 hxt
          have i1 : idxK r y = p.length := idxK_of hnr (by rw [e]; simp)
          have i2 : idxK r x = p.length + (j + 1) := idxK_of hnr (by
            rw [e, List.getElem?_append_right (by omega)]
            have : p.length + (j + 1) - p.length = j + 1 := by omega
            rw [this]; simpa using hj)
          exact ⟨r, hr, by rw [e]; simp, by rw [e]; simp [hxt], by omega⟩
theorem lineF_none {R : List Ids} (hn : ∀ a, a ∈ R → a.Nodup) (h : lineF R = none) : ∃ S : Ids, S ≠ [] ∧ (∀ x, x ∈ S → x ∈ R.flatten) ∧ ∀ x, x ∈ S → ∃ y, y ∈ S ∧ aheadR R y x :=
  lineG_none hn _ LInv.start (by simp) h

/-- Finitely many, of which each has one ahead of it: some are in a ring. -/
theorem has_least {α : Type} {T : α → α → Prop} (tr : ∀ {a b c}, T a b → T b c → T a c) (ir : ∀ a, ¬ T a a) : ∀ (S : List α), S ≠ [] → ∃ m, m ∈ S ∧ ∀ x, x ∈ S → ¬ T x m
  | [], h => absurd rfl h
  | [a], _ => ⟨a, by simp, fun x hx => by simp at hx; subst hx; exact ir x⟩
  | a :: b :: S, _ => by
    obtain ⟨m, hm, hl⟩ := has_least (T := T) (fun h k => tr h k) ir (b :: S) (by simp)
    by_cases k : T a m
    · refine ⟨a, by simp, fun x hx => ?_⟩
      rcases List.mem_cons.1 hx with q | q
      · rw [q]; exact ir a
      · exact fun z => hl x q (tr z k)
    · refine ⟨m, by simp [hm], fun x hx => ?_⟩
      rcases List.mem_cons.1 hx with q | q
      · rw [q]; exact k
      · exact hl x q
theorem ring_of {α : Type} {T : α → α → Prop} {S : List α} (hS : S ≠ []) (h : ∀ x, x ∈ S → ∃ y, y ∈ S ∧ T y x) : ∃ x, Rch T x x := by
  refine Classical.byContradiction fun hno => ?_
  obtain ⟨m, hm, hl⟩ := has_least (T := Rch T) (fun a b => a.trans b) (fun a k => hno ⟨a, k⟩) S hS
  obtain ⟨y, hy, hT⟩ := h m hm
  exact hl y hy (.one hT)
theorem rch_rank {α : Type} {T : α → α → Prop} {f : α → Nat} (h : ∀ x y, T x y → f x < f y) {x y : α} (k : Rch T x y) : f x < f y := by
  induction k with
  | one q => exact h _ _ q
  | step _ q ih => exact Nat.lt_trans ih (h _ _ q)
theorem sub_idx : ∀ {a l : Ids}, a.Sublist l → l.Nodup → ∀ {x y : Int × Int}, x ∈ a → y ∈ a → idxK a x < idxK a y → idxK l x < idxK l y := by
  intro a l s hl x y hx hy hlt
  have ha := s.nodup hl
  -- both are read by pairs
  have key : ∀ {a l : Ids}, a.Sublist l → ∀ {i j : Nat} {x y : Int × Int}, i < j → a[i]? = some x → a[j]? = some y → ∃ p q : Nat, p < q ∧ l[p]? = some x ∧ l[q]? = some y := by
    intro a l s
    induction s with
    | slnil => intro i j x y _ h; simp at h
    | cons c s ih =>
      intro i j x y hij h1 h2
      obtain ⟨p, q, k1, k2, k3⟩ := ih hij h1 h2
      exact ⟨p + 1, q + 1, by omega, by simpa using k2, by simpa using k3⟩
    | cons_cons c s ih =>
      intro i j x y hij h1 h2
      cases j with
      | zero => omega
      | succ j =>
        cases i with
        | zero =>
          simp at h1; subst h1
          have hm := s.subset (List.mem_of_getElem? (by simpa using h2))
          obtain ⟨q, hq⟩ := List.mem_iff_getElem?.1 hm
          exact ⟨0, q + 1, by omega, rfl, by simpa using hq⟩
        | succ i =>
          obtain ⟨p, q, k1, k2, k3⟩ := ih (i := i) (j := j) (x := x) (y := y) (by omega) (by simpa using h1) (by simpa using h2)
          exact ⟨p + 1, q + 1, by omega, by simpa using k2, by simpa using k3⟩
  obtain ⟨p, q, k1, k2, k3⟩ := key s hlt (idx_at hx) (idx_at hy)
  rw [idxK_of hl k2, idxK_of hl k3]; exact k1
/-- A line stands, just where no ring does. -/
theorem line_rank {R : List Ids} (hn : ∀ a, a ∈ R → a.Nodup) {res : Ids} (h : lineF R = some res) {x y : Int × Int} (k : aheadR R x y) : idxK res x < idxK res y := by
  obtain ⟨a, ha, hx, hy, hlt⟩ := k
  obtain ⟨h1, h2, h3, _⟩ := lineF_some hn h
  exact sub_idx (h3 a ha) h1 hx hy hlt
theorem line_ring {R : List Ids} (hn : ∀ a, a ∈ R → a.Nodup) : (lineF R).isSome = false ↔ ∃ x, Rch (aheadR R) x x := by
  constructor
  · intro h
    cases hl : lineF R with
    | some r => rw [hl] at h; cases h
    | none =>
      obtain ⟨S, h1, _, h2⟩ := lineF_none hn hl
      exact ring_of h1 h2
  · rintro ⟨x, hx⟩
    cases hl : lineF R with
    | none => rfl
    | some res =>
      have := rch_rank (f := fun x => idxK res x) (fun x y k => line_rank hn hl k) hx
      omega
theorem Rch.mono {α : Type} {T U : α → α → Prop} (h : ∀ x y, T x y → U x y) {x y : α} (k : Rch T x y) : Rch U x y := by
  induction k with
  | one q => exact .one (h _ _ q)
  | step _ q ih => exact .step ih (h _ _ q)
theorem line_less {R S : List Ids} (hR : ∀ a, a ∈ R → a.Nodup) (hS : ∀ a, a ∈ S → a.Nodup) (h : ∀ a, a ∈ S → a ∈ R) (k : (lineF R).isSome = true) : (lineF S).isSome = true := by
  cases hs : (lineF S).isSome with
  | true => rfl
  | false =>
    obtain ⟨x, hx⟩ := (line_ring hS).1 hs
    have := (line_ring hR).2 ⟨x, hx.mono fun x y ⟨a, ha, q⟩ => ⟨a, h a ha, q⟩⟩
    rw [this] at k; cases k
end Go.Proofs.Ytochkdifpgelmaa

/-! What precentorhand's Pick tells. -/
namespace Go.Proofs.Ytochkdifpgelmaa
open Go.Ab

section
variable {X : XTab}

def pick (n m : Int) : Int := if m < 1 then 0 else if n.tmod m < 0 then n.tmod m + m else n.tmod m

theorem pick_lo (n m : Int) : 0 ≤ pick n m := by
  unfold pick
  split
  · omega
  · split
    · have := Int.lt_tmod_of_pos n (show 0 < m by omega); omega
    · omega
theorem pick_hi (n m : Int) (h : 1 ≤ m) : pick n m < m := by
  unfold pick
  have := Int.tmod_lt_of_pos n (show 0 < m by omega)
  split
  · omega
  · split <;> omega

theorem Pick (hX : OnlyKnown X) (n m : Int) (hm : In64 m) (h : Heap) : Tells (fun q => acallX Try.prog X q F_precentorhand_Pick [I n, I m] h) fun v h' => v = I (pick n m) ∧ h' = h := by
  refine R_precentorhand_Pick _ _ (hX _ _ rfl) ?_
  unfold S_precentorhand_Pick
  simp
  by_cases h1 : m < 1
  · simp [h1]
    exact Tells.ok ⟨by simp [pick, h1], rfl⟩
  · simp [h1, J_precentorhand_Pick_0, aBin_rem _ _ _ _ _ _ _ (show m ≠ 0 by omega)]
    by_cases h2 : n.tmod m < 0
    · simp [h2, J_precentorhand_Pick_1]
      refine Tells.ok ⟨?_, rfl⟩
      have := Int.lt_tmod_of_pos n (show 0 < m by omega)
      rw [wrap_id (by omega) (by have := hm.2; omega)]
      simp [pick, h1, h2]
    · simp [h2, J_precentorhand_Pick_1]
      exact Tells.ok ⟨by simp [pick, h1, h2], rfl⟩

end
end Go.Proofs.Ytochkdifpgelmaa

/-! What law 25's marks tells. -/
namespace Go.Proofs.Ytochkdifpgelmaa
open Go.Ab

def mkN (k : Int) : Mk := ⟨decide (k % 3 = 0), 1 + k / 3 % 3, 1 + k / 9 % 3, 1 + k / 27 % 3⟩
def marksL (xs : List Int) (raw : List Mk) (odd : Bool) : List Mk := ((xs.take 24).map fun n => mkN (pick n 1000)) ++ if odd = true then raw.take 3 else []
theorem marksL_len (xs : List Int) (raw : List Mk) (odd : Bool) : (marksL xs raw odd).length ≤ 27 := by
  unfold marksL
  rw [List.length_append, List.length_map, List.length_take]
  split
  · rw [List.length_take]; omega
  · simp; omega
theorem mkN_in {xs : List Int} {m : Mk} (h : m ∈ marksL xs [] false) : (1 ≤ m.c ∧ m.c ≤ 3) ∧ (1 ≤ m.f ∧ m.f ≤ 3) ∧ (1 ≤ m.s ∧ m.s ≤ 3) := by
  simp only [marksL, Bool.false_eq_true, if_false, List.append_nil, List.mem_map] at h
  obtain ⟨n, _, rfl⟩ := h
  simp only [mkN]
  omega

section
variable {X : XTab}
theorem law_marks (hX : OnlyKnown X) {h : Heap} {v rv : AVal} {xs : List Int} {raw : List Mk} {odd : Bool} (r1 : RawInts h v xs) (o2 : SlZ mkR h rv raw) : Tells (fun q => acallX Try.prog X q F_precentorlaw25_marks [v, rv, .bool odd] h) fun r h' => Gl mkR h h' r (marksL xs raw odd) ∧ Wr h h' r ∧ Ext [] h h' := by
  refine R_precentorlaw25_marks _ _ _ (hX _ _ rfl) ?_
  refine Tells.prot fun Q' hQ => ?_
  unfold S_precentorlaw25_marks
  simp
  have hsm := r1.small
  refine Tells.bind (Tells.loop (fun n t g => ∃ i : Nat, t 0 = v ∧ t 1 = rv ∧ t 2 = .bool odd ∧ t 8 = I i ∧ i ≤ xs.length ∧ i + n = 24 ∧ Gl mkR h g (t 7) ((xs.take i).map fun n => mkN (pick n 1000)) ∧ Wr h g (t 7) ∧ Ext [] h g)
    (Q := fun p g => p.1 = .exit 0 ∧ p.2 0 = v ∧ p.2 1 = rv ∧ p.2 2 = .bool odd ∧ Gl mkR h g (p.2 7) ((xs.take 24).map fun n => mkN (pick n 1000)) ∧ Wr h g (p.2 7) ∧ Ext [] h g) ?_ 24 _ _ ?_) ?_
  · rintro n t g ⟨i, t0, t1, t2, t8, hil, hi, go, wo, x⟩
    refine Tells.prot fun Q2 hQ2 => ?_
    unfold L_precentorlaw25_marks_5
    simp [t8, t0, (r1.sl.ext x).len]
    by_cases hc : i < xs.length
    · by_cases hc2 : i < 24
      · obtain ⟨y, hy⟩ : ∃ y, xs[i]? = some y := ⟨_, List.getElem?_eq_getElem hc⟩
        obtain ⟨b, p, B, q1, q2, q3⟩ := (r1.sl.ext x).atI hy
        have hci : (i : Int) < 24 := by omega
        have w : IntKind.i64.wrap ((i : Int) + 1) = i + 1 := wrap_id (by omega) (by omega)
        have p0 := pick_lo y 1000
        have p1 := pick_hi y 1000 (by omega)
        simp [hc, hc2, hci, t8, J_precentorlaw25_marks_6, t0, q1, q2, q3]
        refine Tells.bind (Pick hX y 1000 ⟨by decide, by decide⟩ g) ?_
        rintro _ _ ⟨rfl, rfl⟩
        generalize hk : pick y 1000 = k at *
        have e3 : ∀ a b : Int, 0 ≤ a → a.tdiv b = a / b := fun a b h => Int.tdiv_eq_ediv_of_nonneg h
        have m3 : ∀ a b : Int, 0 ≤ a → a.tmod b = a % b := fun a b h => Int.tmod_eq_emod_of_nonneg h
        have w1 : IntKind.i64.wrap (k / 3) = k / 3 := wrap_id (by omega) (by omega)
        have w2 : IntKind.i64.wrap (k / 9) = k / 9 := wrap_id (by omega) (by omega)
        have w3 : IntKind.i64.wrap (k / 27) = k / 27 := wrap_id (by omega) (by omega)
        have v1 : IntKind.i64.wrap (1 + k / 3 % 3) = 1 + k / 3 % 3 := wrap_id (by omega) (by omega)
        have v2 : IntKind.i64.wrap (1 + k / 9 % 3) = 1 + k / 9 % 3 := wrap_id (by omega) (by omega)
        have v3 : IntKind.i64.wrap (1 + k / 27 % 3) = 1 + k / 27 % 3 := wrap_id (by omega) (by omega)
        simp [aBin_rem _ _ _ _ _ _ _ (show (3 : Int) ≠ 0 by decide), aBin_quo _ _ _ _ _ _ _ (show (3 : Int) ≠ 0 by decide), aBin_quo _ _ _ _ _ _ _ (show (9 : Int) ≠ 0 by decide), aBin_quo _ _ _ _ _ _ _ (show (27 : Int) ≠ 0 by decide),
          e3 k _ p0, m3 k _ p0, w1, w2, w3, m3 (k / 3) 3 (by omega), m3 (k / 9) 3 (by omega), m3 (k / 27) 3 (by omega), v1, v2, v3, bldR, fillR, splice]
        have hkey : decide (k % 3 = 0) = (k % 3 == 0) := by by_cases q : k % 3 = 0 <;> simp [q]
        refine Tells.app1W (r := mkR) (c := mkC (mkN k)) (x := mkN k) go wo (by simp [mkC, mkN, hkey]) (by rfl) (by rfl) (by rfl) (by rfl) (by simp; omega) (by decide) x.next fun s' h' go' wo' x' y' z' => ?_
        simp [J_precentorlaw25_marks_7, t8, w]
        refine Tells.ok (hQ2 _ _ (.inl ⟨rfl, n - 1, by omega, i + 1, by simp [t0], by simp [t1], by simp [t2], by simp, by omega, by omega, ?_, by simpa using wo', y' _ x⟩))
        rw [List.take_add_one, hy, List.map_append]
        simpa [hk] using go'
      · have hci : ¬ (i : Int) < 24 := by omega
        have : i = 24 := by omega
        subst this
        simp [hc, hci, t8]
        exact Tells.ok (hQ2 _ _ (.inr ⟨by simp, rfl, by simp [t0], by simp [t1], by simp [t2], by simpa using go, by simpa using wo, x⟩))
    · simp [hc, t8]
      refine Tells.ok (hQ2 _ _ (.inr ⟨by simp, rfl, by simp [t0], by simp [t1], by simp [t2], ?_, by simpa using wo, x⟩))
      rw [List.take_of_length_le (by omega)] at go
      rw [List.take_of_length_le (by omega)]
      simpa using go
  · exact ⟨0, by simp, by simp, by simp, by simp, by omega, by omega, by simpa using Gl.nil, fun b hb => by simp [AVal.blks] at hb, .refl⟩
  · rintro ⟨ex, t⟩ g ⟨rfl, t0, t1, t2, go, wo, x⟩
    have t0 : t 0 = v := t0
    have t1 : t 1 = rv := t1
    have t2 : t 2 = .bool odd := t2
    simp [J_precentorlaw25_marks_0]
    have go : Gl mkR h g (t 7) ((xs.take 24).map fun n => mkN (pick n 1000)) := go
    have wo : Wr h g (t 7) := wo
    generalize hA : ((xs.take 24).map fun n => mkN (pick n 1000)) = A at *
    have hAl : A.length ≤ 24 := by rw [← hA]; simp; omega
    have hm : marksL xs raw odd = A ++ if odd = true then raw.take 3 else [] := by unfold marksL; rw [hA]
    refine Tells.bind (Tells.loop (fun n t g => ∃ i : Nat, t 1 = rv ∧ t 2 = .bool odd ∧ t 10 = I i ∧ i ≤ raw.length ∧ i + n = 3 ∧ (odd = false → i = 0) ∧ Gl mkR h g (t 7) (A ++ raw.take i) ∧ Wr h g (t 7) ∧ Ext [] h g)
      (Q := fun p g => p.1 = .exit 2 ∧ Gl mkR h g (p.2 7) (marksL xs raw odd) ∧ Wr h g (p.2 7) ∧ Ext [] h g) ?_ 3 _ _ ?_) ?_
    · rintro n u g ⟨i, t1, t2, t8, hil, hi, ho, go, wo, x⟩
      refine Tells.prot fun Q2 hQ2 => ?_
      unfold L_precentorlaw25_marks_2
      simp [t8, t1, (o2.ext x).len]
      by_cases hc : i < raw.length
      · by_cases hc2 : i < 3
        · have hci : (i : Int) < 3 := by omega
          cases odd with
          | false =>
            simp [hc, hci, t8, t2]
            have := ho rfl
            subst this
            refine Tells.ok (hQ2 _ _ (.inr ⟨by simp, rfl, ?_, by simpa using wo, x⟩))
            rw [hm]
            simpa using go
          | true =>
            obtain ⟨m, hmm⟩ : ∃ m, raw[i]? = some m := ⟨_, List.getElem?_eq_getElem hc⟩
            obtain ⟨b, p, B, q1, q2, q3, q4, q5, q6, q7, q8, q9⟩ := mk_at ((o2.ext x).sl (by omega)) hmm
            have w : IntKind.i64.wrap ((i : Int) + 1) = i + 1 := wrap_id (by omega) (by omega)
            simp [hc, hci, t8, t2, J_precentorlaw25_marks_3, t1, q1, q2, q3, q4]
            refine Tells.app1W (r := mkR) (c := mkC m) (x := m) go wo (by rfl) (by rfl) (by rfl) (by rfl) (by rfl) (by simp; omega) (by decide) x.next fun s' h' go' wo' x' y' z' => ?_
            simp [J_precentorlaw25_marks_4, t8, w]
            refine Tells.ok (hQ2 _ _ (.inl ⟨rfl, n - 1, by omega, i + 1, by simp [t1], by simp [t2], by simp, by omega, by omega, by simp, ?_, by simpa using wo', y' _ x⟩))
            rw [List.take_add_one, hmm, ← List.append_assoc]
            simpa using go'
        · have hci : ¬ (i : Int) < 3 := by omega
          have : i = 3 := by omega
          subst this
          simp [hc, hci, t8]
          refine Tells.ok (hQ2 _ _ (.inr ⟨by simp, rfl, ?_, by simpa using wo, x⟩))
          have : odd = true := by cases odd with
            | true => rfl
            | false => have := ho rfl; omega
          rw [hm, if_pos this]
          simpa using go
      · simp [hc, t8]
        refine Tells.ok (hQ2 _ _ (.inr ⟨by simp, rfl, ?_, by simpa using wo, x⟩))
        rw [hm]
        have hraw : (if odd = true then raw.take 3 else []) = raw.take i := by
          cases odd with
          | true => rw [if_pos rfl, List.take_of_length_le (by omega), List.take_of_length_le (by omega)]
          | false => have := ho rfl; subst this; simp
        rw [hraw]
        simpa using go
    · exact ⟨0, by simp [t1], by simp [t2], by simp, by omega, by omega, fun _ => rfl, by simpa using go, by simpa using wo, x⟩
    · rintro ⟨ex, u⟩ g2 ⟨rfl, go2, wo2, x2⟩
      simp [J_precentorlaw25_marks_1]
      exact Tells.ok (hQ _ _ ⟨by simpa using go2, by simpa using wo2, x2⟩)
end
end Go.Proofs.Ytochkdifpgelmaa

/-! What trace's Causes tells. -/
namespace Go.Proofs.Ytochkdifpgelmaa
open Go.Ab

def knF (ks : List (Int × Int)) (z : Int × Int) : Int := if z ∈ ks then 1 else 0
theorem knF_app {ks : List (Int × Int)} {z : Int × Int} : updF (knF ks) z 1 = knF (ks ++ [z]) := by
  funext y
  unfold updF knF
  by_cases q : y = z
  · subst q; simp
  · simp [q]

/-- What has been found so far. -/
structure Fnd (l : List Mk) (h0 g : Heap) (kb : Nat) (vo vt : AVal) (L ks T : List (Int × Int)) : Prop where
  sl : Sl idR g vo L
  rise : Rise2 L
  mem : ∀ z, z ∈ L ↔ z ∈ ks
  len : L.length ≤ ks.length
  gl : Gl idR h0 g vt T
  mp : Mp (kTwo Try.prog 30 two30) g kb ks (knF ks)
  ids : ∀ z, z ∈ ks → z ∈ l.map mid
  base : h0.next ≤ g.next
theorem Fnd.kl {l : List Mk} {h0 g : Heap} {kb : Nat} {vo vt : AVal} {L ks T : List (Int × Int)} (f : Fnd l h0 g kb vo vt L ks T) : ks.length ≤ l.length := by
  have := nodup_sub_len f.mp.nd f.ids
  simpa using this
theorem Fnd.ext {l : List Mk} {h0 g g' : Heap} {kb : Nat} {vo vt : AVal} {L ks T : List (Int × Int)} {S : List Nat} (f : Fnd l h0 g kb vo vt L ks T) (e : Ext S g g') (hk : kb ∉ S) (hs : ∀ b, b ∈ S → g.isM b = true ∨ g.next ≤ b) : Fnd l h0 g' kb vo vt L ks T :=
  ⟨f.sl.ext e, f.rise, f.mem, f.len, f.gl.extO e hs, f.mp.ext e hk, f.ids, Nat.le_trans f.base e.next⟩
theorem Fnd.e {l : List Mk} {h0 g g' : Heap} {kb : Nat} {vo vt : AVal} {L ks T : List (Int × Int)} (f : Fnd l h0 g kb vo vt L ks T) (e : Ext [] g g') : Fnd l h0 g' kb vo vt L ks T := f.ext e (by simp) (by simp)

section
variable {X : XTab}
theorem causesI (hX : OnlyKnown X) {h0 g : Heap} {v vo vt : AVal} {l : List Mk} {y : Int × Int} {yb kb db : Nat} {fr0 : Nat} {en : Int} {kd : List Int} {D : Int → Int} {L ks0 T0 : List (Int × Int)} {t : T} (o : Sl mkR h0 v l) (hl : l.length ≤ 100) (hen : en ≤ l.length) (hfr : fr0 ≤ 100) (f : Fnd l h0 g kb vo vt L ks0 T0) (hT : T0.length ≤ 1000)
    (ob : Ob g yb (idC y)) (hd : Mp (kInt Try.prog 3 ui64) g db kd D) (hkd : kb ≠ db) (hky : kb ≠ yb) (x0 : Ext [] h0 g) (hk0 : h0.next ≤ kb) (t0 : t 0 = v) (t5 : t 5 = vo) (t6 : t 6 = vt) (t8 : t 8 = .mp kb) (t9 : t 9 = .ptr yb 0) (t11 : t 11 = I en) (t12 : t 12 = I fr0) :
    Tells (fun q => loopN (L_trace_Causes_3 Try.prog (acallX Try.prog X q) q) q t g) fun z g' => z.1 = .exit 2 ∧ ∃ L ks T, Fnd l h0 g' kb (z.2 5) (z.2 6) L ks T ∧ Mp (kInt Try.prog 3 ui64) g' db kd D ∧ Ext [] h0 g' ∧ g.next ≤ g'.next ∧ T.length + ks0.length = ks.length + T0.length ∧ (∀ z, z ∈ ks0 → z ∈ ks) ∧ (∀ z, z ∈ T0 → z ∈ T) ∧
      (∀ z, z ∈ T → z ∈ T0 ∨ z ∈ ks) ∧ (∀ z, z ∈ ks → z ∈ ks0 ∨ z ∈ T) ∧ (∀ z, z ∈ ks → z ∈ ks0 ∨ ∃ (i : Nat) (m : Mk), l[i]? = some m ∧ (i : Int) < en ∧ m.c = y.1 ∧ mid m = z) ∧ (∀ (j : Nat) (m : Mk), l[j]? = some m → fr0 ≤ j → (j : Int) < en → m.c = y.1 → mid m ∈ ks) ∧
      ∀ i, i ≤ 4 ∨ i = 7 ∨ i = 8 → z.2 i = t i := by
  refine Tells.loop (fun n t' g' => ∃ (i : Nat) (L ks T : List (Int × Int)), t' 12 = I i ∧ fr0 ≤ i ∧ (i : Int) + n = max (fr0 : Int) en ∧ Fnd l h0 g' kb (t' 5) (t' 6) L ks T ∧ Ob g' yb (idC y) ∧ Mp (kInt Try.prog 3 ui64) g' db kd D ∧ Ext [] h0 g' ∧ g.next ≤ g'.next ∧ T.length + ks0.length = ks.length + T0.length ∧ (∀ z, z ∈ ks0 → z ∈ ks) ∧ (∀ z, z ∈ T0 → z ∈ T) ∧
      (∀ z, z ∈ T → z ∈ T0 ∨ z ∈ ks) ∧ (∀ z, z ∈ ks → z ∈ ks0 ∨ z ∈ T) ∧ (∀ z, z ∈ ks → z ∈ ks0 ∨ ∃ (i : Nat) (m : Mk), l[i]? = some m ∧ (i : Int) < en ∧ m.c = y.1 ∧ mid m = z) ∧ (∀ (j : Nat) (m : Mk), l[j]? = some m → fr0 ≤ j → j < i → m.c = y.1 → mid m ∈ ks) ∧
      ∀ i, i ≤ 4 ∨ i = 7 ∨ i = 8 ∨ i = 9 ∨ i = 11 → t' i = t i) ?_ (max (fr0 : Int) en - fr0).toNat _ _ ?_
  · rintro n u g1 ⟨i, L, ks, T, u12, hfi, hi, f1, ob1, hd1, x1, hgn, hlen, hks, hT0, hT1, hT2, hsnd, hprog, fr⟩
    have u0 : u 0 = v := (fr 0 (by decide)).trans t0
    have u8 : u 8 = .mp kb := (fr 8 (by decide)).trans t8
    have u9 : u 9 = .ptr yb 0 := (fr 9 (by decide)).trans t9
    have u11 : u 11 = I en := (fr 11 (by decide)).trans t11
    refine Tells.prot fun Q2 hQ2 => ?_
    unfold L_trace_Causes_3
    simp [u12, u11]
    refine Tells.cb (fun hc => ?_) (fun hc => ?_)
    · simp at hc
      have hil : i < l.length := by omega
      obtain ⟨m, hm⟩ : ∃ m, l[i]? = some m := ⟨_, List.getElem?_eq_getElem hil⟩
      obtain ⟨b, p, B, q1, q2, q3, q4, q5, q6, q7, q8, q9⟩ := mk_at (o.ext x1) hm
      have w : IntKind.i64.wrap ((i : Int) + 1) = i + 1 := wrap_id (by omega) (by omega)
      have obe := ob1.1
      simp only [idC] at obe
      have nx : ((i + 1 : Nat) : Int) + ((n - 1 : Nat) : Int) = max (fr0 : Int) en := by omega
      have keep : (m.c = y.1 → mid m ∈ ks) → ∀ (j : Nat) (k : Mk), l[j]? = some k → fr0 ≤ j → j < i + 1 → k.c = y.1 → mid k ∈ ks := fun hh j k hj h1 h2 h3 => by
        by_cases q : j = i
        · subst q; rw [hm] at hj; cases hj; exact hh h3
        · exact hprog j k hj h1 (by omega) h3
      simp [J_trace_Causes_4, u12, u0, u9, q1, q2, q3, q4, q7, obe]
      by_cases hmc : m.c = y.1
      · simp [hmc, J_trace_Causes_6, u12, u0, q1, q2, q3, q4]
        refine Tells.bind (by simpa [mkC, hmc] using trace_id hX m g1) ?_
        rintro _ g2 ⟨rfl, y2⟩
        try simp
        refine Tells.newSt (ds := idC (mid m)) (by rfl) (by rfl) (by rfl) (by rfl) fun g3 bz oz y3 l3 => ?_
        have f3 := (f1.e y2).e y3
        have x3 := (x1.trans y2).trans y3
        have ob3 := (ob1.e y2).e y3
        have hd3 := (hd1.e y2).e y3
        have hkb := f1.mp.ob.lt
        have nx2 := y2.next
        have nx3 := y3.next
        have e := f3.mp.look2 mt47 tz3 (mid m)
        simp [oz.1, idC, u8, e]
        by_cases hin : mid m ∈ ks
        · have ek : knF ks (mid m) = 1 := if_pos hin
          simp [ek, J_trace_Causes_5, u12, w]
          refine Tells.ok (hQ2 _ _ (.inl ⟨rfl, n - 1, by omega, i + 1, L, ks, T, by simp, by omega, nx, by simpa using f3, ob3, hd3, x3, by omega, hlen, hks, hT0, hT1, hT2, hsnd, keep fun _ => hin, fun j hj => ?_⟩))
          simp only [upd]
          repeat rw [if_neg (by omega)]
          exact fr j hj
        · have ek : knF ks (mid m) = 0 := if_neg hin
          simp [ek, oz.1, idC, u8]
          refine Tells.mset f3.mp mt47 (a := mid m) (κ := .agg [I (mid m).1, I (mid m).2]) (by rfl) fun g4 M4 y4 => ?_
          rw [insK_new hin, knF_app] at M4
          have nk : ∀ b, b ∈ [kb] → g3.isM b = true ∨ g3.next ≤ b := fun b hb => by simp at hb; subst hb; exact .inl f3.mp.ob.2.1
          have oz4 := oz.ext y4 (by simp; omega)
          have ob4 := ob3.ext y4 (by simp; exact fun q => hky q.symm)
          have hd4 := hd3.ext y4 (by simp; exact fun q => hkd q.symm)
          have sl4 := f3.sl.ext y4
          have gl4 := f3.gl.extO y4 nk
          have x4 := x3.then y4 (by simp; omega)
          have oze := oz4.1
          simp only [idC] at oze
          have kl := f1.kl
          have hLl := f1.len
          simp [oze]
          refine Tells.bind (by simpa [idC] using trace_lay hX sl4 (by omega) (mid m)) ?_
          rintro lv g5 ⟨sl5, y5⟩
          have oz5 := (oz4.e y5).1
          simp only [idC] at oz5
          have x5 := x4.trans y5
          simp [oz5]
          refine Tells.app1 (r := idR) (c := [I (mid m).1, I (mid m).2]) (x := mid m) (gl4.e y5) (by rfl) (by rfl) (by rfl) (by rfl) (by rfl) (by omega) (by decide) x5.next fun s6 g6 go6 y6 y6' z6 => ?_
          have nob : ∀ d cs, Ob g5 d cs → d ∉ (u 6).blks := fun d cs od => (gl4.e y5).1.ob od
          simp [J_trace_Causes_5, u12, w]
          obtain ⟨lr, lm, ll⟩ := layF_ok (y := mid m) f1.rise
          refine Tells.ok (hQ2 _ _ (.inl ⟨rfl, n - 1, by omega, i + 1, layF L (mid m), ks ++ [mid m], T ++ [mid m], by simp, by omega, nx, ⟨?_, lr, ?_, ?_, ?_, ?_, ?_, ?_⟩, ?_, ?_, y6' _ x5, ?_, ?_, ?_, ?_, ?_, ?_, ?_, ?_, fun j hj => ?_⟩))
          · simpa using sl5.ext y6
          · intro z; rw [lm, f1.mem]; simp [or_comm]
          · simp; omega
          · simpa using go6
          · exact (M4.e y5).ext y6 (nob _ _ (M4.e y5).ob)
          · intro z hz
            rcases List.mem_append.1 hz with q | q
            · exact f1.ids z q
            · simp at q; rw [q]; exact List.mem_map_of_mem (List.mem_of_getElem? hm)
          · exact (y6' _ x5).next
          · exact (ob4.e y5).ext y6 (nob _ _ (ob4.e y5))
          · exact (hd4.e y5).ext y6 (nob _ _ (hd4.e y5).ob)
          · have := y4.next; have := y5.next; have := y6.next; omega
          · simp; omega
          · intro z hz; simp [hks z hz]
          · intro z hz; simp [hT0 z hz]
          · intro z hz
            rcases List.mem_append.1 hz with q | q
            · exact (hT1 z q).imp_right fun r => by simp [r]
            · exact .inr (by simp at q; simp [q])
          · intro z hz
            rcases List.mem_append.1 hz with q | q
            · exact (hT2 z q).imp_right fun r => by simp [r]
            · exact .inr (by simp at q; simp [q])
          · intro z hz
            rcases List.mem_append.1 hz with q | q
            · exact hsnd z q
            · simp at q; exact .inr ⟨i, m, hm, by omega, hmc, q.symm⟩
          · intro j k hj h1 h2 h3
            by_cases q : j = i
            · subst q; rw [hm] at hj; cases hj; simp
            · simp [hprog j k hj h1 (by omega) h3]
          · simp only [upd]
            repeat rw [if_neg (by omega)]
            exact fr j hj
      · have hmc' : (m.c == y.1) = false := by simpa using hmc
        have hmc2 : (m.c != y.1) = true := by simpa using hmc
        simp [hmc, hmc', hmc2, J_trace_Causes_5, u12, w]
        refine Tells.ok (hQ2 _ _ (.inl ⟨rfl, n - 1, by omega, i + 1, L, ks, T, by simp, by omega, nx, by simpa using f1, ob1, hd1, x1, hgn, hlen, hks, hT0, hT1, hT2, hsnd, keep fun q => absurd q hmc, fun j hj => ?_⟩))
        simp only [upd]
        repeat rw [if_neg (by omega)]
        exact fr j hj
    · simp at hc
      refine Tells.ok (hQ2 _ _ (.inr ⟨by simp, rfl, L, ks, T, by simpa using f1, hd1, x1, hgn, hlen, hks, hT0, hT1, hT2, hsnd, fun j m h1 h2 h3 => hprog j m h1 h2 (by omega), fun j hj => ?_⟩))
      simp only [upd]
      repeat rw [if_neg (by omega)]
      exact fr j (by omega)
  · exact ⟨fr0, L, ks0, T0, t12, by omega, by omega, by rw [t5, t6]; exact f, ob, hd, x0, by omega, by omega, fun _ h => h, fun _ h => h, fun _ h => .inl h, fun _ h => .inl h, fun _ h => .inl h, fun j m h1 h2 h3 => by omega, fun _ _ => rfl⟩

theorem trace_Causes (hX : OnlyKnown X) {h : Heap} {v : AVal} {l : List Mk} (o : Sl mkR h v l) (hl : l.length ≤ 100) (x : Int × Int) : Tells (fun q => acallX Try.prog X q F_trace_Causes [v, .agg (idC x)] h) fun r h' =>
    ∃ L, Sl idR h' r L ∧ Rise2 L ∧ (∀ z, z ∈ L ↔ Rch (causeP l) x z) ∧ L.length ≤ 100 ∧ Ext [] h h' := by
  refine R_trace_Causes _ _ (hX _ _ rfl) ?_
  refine Tells.prot fun Q' hQ => ?_
  unfold S_trace_Causes
  simp
  refine Tells.box (cs := idC x) (by rfl) (by rfl) fun h1 bx ox x1 lx => ?_
  have oxe := ox.1
  simp only [idC] at oxe
  simp [oxe]
  refine Tells.lit (r := idR) (xs := [x]) (css := [[I x.1, I x.2]]) (by rfl) ⟨rfl, trivial⟩ (by rfl) (by simp) (bsl1_agg (by rfl) (by rfl)) fun v1 h2 g1 x2 hb => ?_
  obtain ⟨m1, x3⟩ := Mp.make (K := kInt Try.prog 3 ui64) h2
  obtain ⟨m2, x4⟩ := Mp.make (K := kTwo Try.prog 30 two30) (h2.new true [])
  have lt1 : h2.next < (h2.new true []).next := m1.ob.lt
  have lt2' : (h2.new true []).next < ((h2.new true []).new true []).next := m2.ob.lt
  have x04 := ((x1.trans x2).trans x3).trans x4
  have hh2 := (x1.trans x2).next
  try simp
  refine Tells.bind (Tells.loop (fun n t g => ∃ (L ks T : List (Int × Int)) (kd : List Int) (D : Int → Int), t 0 = v ∧ t 7 = .mp h2.next ∧ t 8 = .mp (h2.new true []).next ∧ Fnd l h g (h2.new true []).next (t 5) (t 6) L ks T ∧ Mp (kInt Try.prog 3 ui64) g h2.next kd D ∧ Ext [] h g ∧ n + ks.length = T.length + l.length ∧ T.length ≤ ks.length + 1 ∧
      (∀ (j : Nat) (m : Mk), l[j]? = some m → (j : Int) < D m.c → mid m ∈ ks) ∧ (∀ z, z = x ∨ z ∈ ks → z ∈ T ∨ firstS l z ≤ D z.1) ∧ (∀ z, z ∈ ks → Rch (causeP l) x z) ∧ (∀ z, z ∈ T → z = x ∨ z ∈ ks) ∧ (∀ c, 0 ≤ D c ∧ D c ≤ 100))
    (Q := fun p g => p.1 = .exit 0 ∧ Ext [] h g ∧ ∃ L, Sl idR g (p.2 5) L ∧ Rise2 L ∧ (∀ z, z ∈ L ↔ Rch (causeP l) x z) ∧ L.length ≤ 100) ?_ (1 + l.length) _ _ ?_) ?_
  · rintro n t g ⟨L, ks, T, kd, D, t0, t7, t8, f, md, xg, hn, hTl, o1, o2, o3, o3', o4⟩
    refine Tells.prot fun Q2 hQ2 => ?_
    unfold L_trace_Causes_1
    simp [f.gl.1.len]
    cases T with
    | nil =>
      simp
      refine Tells.ok (hQ2 _ _ (.inr ⟨by simp, rfl, xg, L, by simpa using f.sl, f.rise, fun z => ?_, ?_⟩))
      · rw [f.mem]
        refine ⟨o3 z, fun hz => reach_all o1 (fun z hz => ?_) hz⟩
        rcases o2 z hz with q | q
        · simp at q
        · exact q
      · have := f.len
        have := f.kl
        omega
    | cons y T =>
      obtain ⟨b3, p3, B3, r1, r2, r3, r4, r5, _⟩ := id_at f.gl.1 (i := 0) (x := y) rfl
      have r1' : ixsR 2 (t 6) (.int .i64 0) = some (.ptr b3 p3) := r1
      have hpos : (0 : Int) < ((T.length : Int) + 1) := by omega
      simp [hpos, J_trace_Causes_2, r1', r2, r3, r4]
      refine Tells.newSt (ds := idC y) (by rfl) (by rfl) (by rfl) (by rfl) fun g1 yb oy y1 ly => ?_
      have f1 := f.e y1
      have md1 := md.e y1
      obtain ⟨v', s1, s2, s3⟩ := gl_dropI (n := 2) (lo := 1) f1.gl rfl (by simp)
      have s1' : slcR 2 (t 6) (some (.int .i64 1)) none none = some v' := s1
      have e := md1.look1 mt46 tz3 y.1
      have oye := oy.1
      simp only [idC] at oye
      simp [s1', t7, t0, oye, e]
      refine Tells.cbE (by simpa [idC] using trace_first hX ((o.ext xg).ext y1) hl y) ?_
      rintro _ g2 ⟨rfl, y2⟩
      have md2 := md1.e y2
      have e2 := md2.look1 mt46 tz3 y.1
      have oy2 := oy.e y2
      have oye2 := oy2.1
      simp only [idC] at oye2
      have hD := o4 y.1
      have kl00 := f.kl
      have hen := firstS_ge l y
      have hkb := f.mp.ob.lt
      have hdb := md.ob.lt
      simp [t7, t0, oye2, e2]
      refine Tells.mset (n := if D y.1 < firstS l y then firstS l y else D y.1) md2 mt46 (a := y.1) (by rfl) fun g3 M3 y3 => ?_
      have hkd : (h2.new true []).next ≠ h2.next := by omega
      have f3 := (f1.e y2).ext y3 (by simp; exact hkd) (fun b hb => by simp at hb; subst hb; exact .inl md2.ob.2.1)
      have oy3 := oy2.ext y3 (by simp; omega)
      have xg2 := (xg.trans y1).trans y2
      have xg3 := xg2.then y3 (by simp; omega)
      have hDn : (I (D y.1)) = I (((D y.1).toNat : Nat) : Int) := by rw [Int.toNat_of_nonneg hD.1]
      have f3' : Fnd l h g3 (h2.new true []).next (t 5) v' L ks T := ⟨f3.sl, f3.rise, f3.mem, f3.len, by
        have s2' : Gl idR h g1 v' T := by simpa using s2
        exact (s2'.e y2).extO y3 (fun b hb => by simp at hb; subst hb; exact .inl md2.ob.2.1), f3.mp, f3.ids, f3.base⟩
      try simp
      simp only [List.length_cons] at hn hTl
      refine Tells.bind (causesI hX (h0 := h) (y := y) (yb := yb) (kb := (h2.new true []).next) (db := h2.next) (fr0 := (D y.1).toNat) (en := firstS l y) (vo := t 5) (vt := v') o hl hen.2 (by omega) f3' (by omega) oy3 M3 hkd (by omega) xg3 (by omega) (by simp [t0]) (by simp) (by simp) (by simp [t8]) (by simp) (by simp) (by simp [hDn])) ?_
      rintro ⟨ex, u⟩ g4 ⟨rfl, L', ks', T', f4, md4, xg4, hg4, hlen, hks, hT0, hT1, hT2, hsnd, hprog, fr⟩
      have u0 : u 0 = v := (fr 0 (by decide)).trans (by simp [t0])
      have u7 : u 7 = .mp h2.next := (fr 7 (by decide)).trans (by simp [t7])
      have u8 : u 8 = .mp (h2.new true []).next := (fr 8 (by decide)).trans (by simp [t8])
      have kl := f4.kl
      have kl0 := f.kl
      have hmax : (if D y.1 < firstS l y then firstS l y else D y.1) = max (D y.1) (firstS l y) := by split <;> omega
      simp
      refine Tells.ok (hQ2 _ _ (.inl ⟨rfl, n - 1, by omega, L', ks', T', _, _, u0, u7, u8, f4, md4, xg4, by omega, by omega, fun j m hj hlt => ?_, fun z hz => ?_, fun z hz => ?_, fun z hz => ?_, fun c => ?_⟩))
      · rw [hmax] at hlt
        unfold updF at hlt
        by_cases hc : m.c = y.1
        · rw [if_pos hc] at hlt
          by_cases hjd : (j : Int) < D y.1
          · exact hks _ (o1 j m hj (by rw [hc]; exact hjd))
          · exact hprog j m hj (by omega) (by omega) hc
        · rw [if_neg hc] at hlt
          exact hks _ (o1 j m hj hlt)
      · rw [hmax]
        have up : ∀ z : Int × Int, firstS l z ≤ D z.1 → firstS l z ≤ updF D y.1 (max (D y.1) (firstS l y)) z.1 := fun z hz => by
          unfold updF
          by_cases hc : z.1 = y.1
          · rw [if_pos hc]; rw [hc] at hz; omega
          · rw [if_neg hc]; exact hz
        by_cases hzy : z = y
        · subst hzy
          right
          unfold updF
          rw [if_pos rfl]; omega
        · have old : z = x ∨ z ∈ ks → z ∈ T' ∨ firstS l z ≤ updF D y.1 (max (D y.1) (firstS l y)) z.1 := fun hz => by
            rcases o2 z hz with q | q
            · rcases List.mem_cons.1 q with r | r
              · exact absurd r hzy
              · exact .inl (hT0 z r)
            · exact .inr (up z q)
          rcases hz with q | q
          · exact old (.inl q)
          · rcases hT2 z q with r | r
            · exact old (.inr r)
            · exact .inl r
      · rcases hsnd z hz with q | ⟨i, m, k1, k2, k3, k4⟩
        · exact o3 z q
        · have hc : causeP l y z := ⟨i, m, k1, k2, k3, k4⟩
          rcases o3' y (by simp) with r | r
          · rw [← r]; exact .one hc
          · exact .step (o3 y r) hc
      · rcases hT1 z hz with q | q
        · exact (o3' z (by simp [q])).imp_right fun r => hks z r
        · exact .inr q
      · rw [hmax]
        have := o4 c
        unfold updF
        split
        · omega
        · exact this
  · refine ⟨[], [], [x], [], fun _ => 0, by simp, by simp, by simp, ⟨by simpa using Sl.nil, List.Pairwise.nil, by simp, by simp, ?_, ?_, by simp, x04.next⟩, m1.e x4, x04, by simp, by simp, fun j m _ h => by simp at h; omega, fun z hz => .inl (by simpa using hz), by simp, by simp, fun c => by simp⟩
    · have := ((g1.back x1.next).e x3).e x4
      simpa using this
    · have e : knF [] = fun _ => 0 := by funext z; simp [knF]
      rw [e]; exact m2
  · rintro ⟨ex, t⟩ g ⟨rfl, xg, L, sl, rise, mem, len⟩
    simp [J_trace_Causes_0]
    exact Tells.ok (hQ _ _ ⟨L, by simpa using sl, rise, mem, len, xg⟩)
end
end Go.Proofs.Ytochkdifpgelmaa

/-! What law 25's at tells; TraceCauses' loops. -/
namespace Go.Proofs.Ytochkdifpgelmaa
open Go.Ab

theorem idxK_first {α : Type} [DecidableEq α] {l : List α} {i : Nat} {x : α} (h : l[i]? = some x) (hn : x ∉ l.take i) : idxK l x = i := by
  have hi := (List.getElem?_eq_some_iff.1 h).1
  have e : l = l.take i ++ l.drop i := (List.take_append_drop _ _).symm
  unfold idxK
  rw [e, List.idxOf_append, if_neg hn]
  have hd : l.drop i = x :: l.drop (i + 1) := by
    rw [List.drop_eq_getElem_cons hi]
    rw [List.getElem?_eq_getElem hi] at h
    cases h; rfl
  rw [hd]
  simp; omega
theorem posF_take {l : Ids} {i : Nat} {x : Int × Int} (h : l[i]? = some x) (hn : x ∉ l.take i) : posF l x = i + 1 := by
  rw [posF_in (List.mem_of_getElem? h), idxK_first h hn]

section
variable {X : XTab}
theorem law_at (hX : OnlyKnown X) {h : Heap} {v : AVal} {l : Ids} (o : Sl idR h v l) (hl : l.length ≤ 1000) (y : Int × Int) : Tells (fun q => acallX Try.prog X q F_precentorlaw25_at [v, .agg (idC y)] h) fun r h' => r = I (posF l y - 1) ∧ Ext [] h h' := by
  refine R_precentorlaw25_at _ _ (hX _ _ rfl) ?_
  refine Tells.prot fun Q' hQ => ?_
  unfold S_precentorlaw25_at
  simp
  refine Tells.box (cs := idC y) (by rfl) (by rfl) fun h1 bx ox x1 lx => ?_
  have oxe := ox.1
  simp only [idC] at oxe
  try simp
  refine Tells.bind (Tells.loop (fun n t g => ∃ i : Nat, t 0 = v ∧ t 3 = .ptr bx 0 ∧ t 5 = I i ∧ i + n = l.length ∧ g = h1 ∧ y ∉ l.take i)
    (Q := fun p g => g = h1 ∧ ((p.1 = .exit 0 ∧ posF l y = 0) ∨ (p.1 = .ret ∧ p.2 4 = I (posF l y - 1)))) ?_ l.length _ _ ?_) ?_
  · rintro n t g ⟨i, t0, t3, t5, hi, rfl, hno⟩
    refine Tells.prot fun Q2 hQ2 => ?_
    unfold L_precentorlaw25_at_1
    simp [t5, t0, (o.ext x1).len]
    refine Tells.cb (fun hc => ?_) (fun hc => ?_)
    · simp at hc
      obtain ⟨k, hk⟩ : ∃ k, l[i]? = some k := ⟨_, List.getElem?_eq_getElem hc⟩
      obtain ⟨b, p, B, q1, q2, q3, q4, q5, q6, q7⟩ := id_at (o.ext x1) hk
      have htk : l.take (i + 1) = l.take i ++ [k] := by rw [List.take_add_one, hk]; rfl
      have w : IntKind.i64.wrap ((i : Int) + 1) = i + 1 := wrap_id (by omega) (by omega)
      simp [J_precentorlaw25_at_2, t5, t0, t3, q1, q2, q3, q4, oxe, aBin_eql2 two30]
      by_cases hq : k = y
      · subst hq
        simp [t5]
        refine Tells.ok (hQ2 _ _ (.inr ⟨by simp, rfl, .inr ⟨rfl, ?_⟩⟩))
        rw [posF_take hk hno]
        simp
      · have hne : ¬ (k.1 = y.1 ∧ k.2 = y.2) := fun z => hq (Prod.ext z.1 z.2)
        have hne' : (k.1 == y.1 && k.2 == y.2) = false := by
          cases hb : (k.1 == y.1 && k.2 == y.2) with
          | false => rfl
          | true => simp at hb; exact absurd hb hne
        simp [hne, hne', J_precentorlaw25_at_3, t5, w]
        refine Tells.ok (hQ2 _ _ (.inl ⟨rfl, n - 1, by omega, i + 1, by simp [t0], by simp [t3], by simp, by omega, rfl, fun hz => ?_⟩))
        rw [htk] at hz
        rcases List.mem_append.1 hz with q | q
        · exact hno q
        · simp at q; exact hq q.symm
    · simp at hc
      rw [List.take_of_length_le (by omega)] at hno
      exact Tells.ok (hQ2 _ _ (.inr ⟨by simp, rfl, .inl ⟨rfl, posF_out hno⟩⟩))
  · exact ⟨0, by simp, by simp, by simp, by omega, rfl, by simp⟩
  · rintro ⟨ex, t⟩ g ⟨rfl, ⟨rfl, ho⟩ | ⟨rfl, t4⟩⟩
    · simp [J_precentorlaw25_at_0]
      exact Tells.ok (hQ _ _ ⟨by rw [ho]; rfl, x1⟩)
    · simp
      exact Tells.ok (hQ _ _ ⟨t4, x1⟩)

/-- Was it sent ahead of that? -/
def sentB (m : List Mk) (i : Nat) (k0 : Mk) : Prop := ∃ j k, j < i ∧ m[j]? = some k ∧ k.sent = true ∧ k.c = k0.c ∧ k.s = k0.s
theorem tc_first {g : Heap} {v : AVal} {m : List Mk} {i : Nat} {k0 : Mk} {t : T} (o : Sl mkR g v m) (hl : m.length ≤ 100) (hi : m[i]? = some k0) (t3 : t 3 = v) (t4 : t 4 = I i) (t6 : t 6 = I i) (t7 : t 7 = I 0) :
    Tells (fun q => loopN (L_precentorlaw25_TraceCauses_19 Try.prog (acallX Try.prog X q) q) q t g) fun z g' => z.1 = .exit 2 ∧ g' = g ∧ ((z.2 6 = I i ∧ ¬ sentB m i k0) ∨ (z.2 6 = I (-1) ∧ sentB m i k0)) ∧ ∀ j, j ≤ 5 → z.2 j = t j := by
  have hil := (List.getElem?_eq_some_iff.1 hi).1
  obtain ⟨b0, p0, B0, r1, r2, r3, r4, r5, r6, r7, r8, r9⟩ := mk_at o hi
  refine Tells.loop (fun n t' g' => ∃ j : Nat, t' 7 = I j ∧ j + n = i ∧ g' = g ∧ ((t' 6 = I i ∧ ¬ sentB m j k0) ∨ (t' 6 = I (-1) ∧ sentB m j k0)) ∧ ∀ j, j ≤ 5 → t' j = t j) ?_ i _ _ ?_
  · rintro n u g1 ⟨j, u7, hj, rfl, hs, fr⟩
    have u3 : u 3 = v := (fr 3 (by decide)).trans t3
    have u4 : u 4 = I i := (fr 4 (by decide)).trans t4
    refine Tells.prot fun Q2 hQ2 => ?_
    unfold L_precentorlaw25_TraceCauses_19
    simp [u7, u4]
    refine Tells.cb (fun hc => ?_) (fun hc => ?_)
    · simp at hc
      obtain ⟨k, hk⟩ : ∃ k, m[j]? = some k := ⟨_, List.getElem?_eq_getElem (by omega)⟩
      obtain ⟨b, p, B, q1, q2, q3, q4, q5, q6, q7, q8, q9⟩ := mk_at o hk
      have w : IntKind.i64.wrap ((j : Int) + 1) = j + 1 := wrap_id (by omega) (by omega)
      have nx : ∀ (u' : T), (∀ z, z ≤ 5 → u' z = u z) → ∀ z, z ≤ 5 → u' z = t z := fun u' h z hz => (h z hz).trans (fr z hz)
      have old : sentB m j k0 → sentB m (j + 1) k0 := fun ⟨a, b, h1, h2⟩ => ⟨a, b, by omega, h2⟩
      have skip : ¬ (k.sent = true ∧ k.c = k0.c ∧ k.s = k0.s) → ((u 6 = I i ∧ ¬ sentB m (j + 1) k0) ∨ (u 6 = I (-1) ∧ sentB m (j + 1) k0)) := fun hno => by
        rcases hs with ⟨h1, h2⟩ | ⟨h1, h2⟩
        · refine .inl ⟨h1, fun ⟨a, b, c1, c2, c3⟩ => ?_⟩
          by_cases hq : a = j
          · subst hq; rw [hk] at c2; cases c2; exact hno c3
          · exact h2 ⟨a, b, by omega, c2, c3⟩
        · exact .inr ⟨h1, old h2⟩
      simp [J_precentorlaw25_TraceCauses_20, u7, u3, q1, q2, q6]
      by_cases hsent : k.sent = true
      · by_cases hcc : k.c = k0.c
        · by_cases hss : k.s = k0.s
          · simp [hsent, hcc, hss, u7, u3, u4, q1, q2, q7, q9, r1, r2, r7, r9, J_precentorlaw25_TraceCauses_21, w]
            refine Tells.ok (hQ2 _ _ (.inl ⟨rfl, n - 1, by omega, j + 1, by simp, by omega, rfl, .inr ⟨by simp, ⟨j, k, by omega, hk, hsent, hcc, hss⟩⟩, nx _ fun z hz => ?_⟩))
            simp only [upd]
            repeat rw [if_neg (by omega)]
          · have e : (k.s == k0.s) = false := by simpa using hss
            simp [hsent, hcc, hss, e, u7, u3, u4, q1, q2, q7, q9, r1, r2, r7, r9, J_precentorlaw25_TraceCauses_21, w]
            refine Tells.ok (hQ2 _ _ (.inl ⟨rfl, n - 1, by omega, j + 1, by simp, by omega, rfl, by simpa using skip (fun q => hss q.2.2), nx _ fun z hz => ?_⟩))
            simp only [upd]
            repeat rw [if_neg (by omega)]
        · have e : (k.c == k0.c) = false := by simpa using hcc
          simp [hsent, hcc, e, u7, u3, u4, q1, q2, q7, r1, r2, r7, J_precentorlaw25_TraceCauses_21, w]
          refine Tells.ok (hQ2 _ _ (.inl ⟨rfl, n - 1, by omega, j + 1, by simp, by omega, rfl, by simpa using skip (fun q => hcc q.2.1), nx _ fun z hz => ?_⟩))
          simp only [upd]
          repeat rw [if_neg (by omega)]
      · have e : k.sent = false := by simpa using hsent
        simp [e, J_precentorlaw25_TraceCauses_21, u7, w]
        refine Tells.ok (hQ2 _ _ (.inl ⟨rfl, n - 1, by omega, j + 1, by simp, by omega, rfl, by simpa using skip (fun q => hsent q.1), nx _ fun z hz => ?_⟩))
        simp only [upd]
        repeat rw [if_neg (by omega)]
    · simp at hc
      have : j = i := by omega
      subst this
      refine Tells.ok (hQ2 _ _ (.inr ⟨by simp, rfl, rfl, by simpa using hs, fun z hz => ?_⟩))
      simp only [upd]
      repeat rw [if_neg (by omega)]
      exact fr z hz
  · exact ⟨0, t7, by omega, rfl, .inl ⟨t6, fun ⟨a, b, h, _⟩ => by omega⟩, fun _ _ => rfl⟩

/-- What its client saw ahead of it is among its causes. -/
theorem tc_seen (hX : OnlyKnown X) {g : Heap} {v cv : AVal} {m : List Mk} {i : Nat} {k0 : Mk} {L : Ids} {t : T} (o : Sl mkR g v m) (hl : m.length ≤ 100) (hi : m[i]? = some k0) (oL : Sl idR g cv L) (hL : L.length ≤ 100) (hin : ∀ (j : Nat) (k : Mk), m[j]? = some k → j < i → k.c = k0.c → mid k ∈ L)
    (t3 : t 3 = v) (t4 : t 4 = I i) (t8 : t 8 = cv) (t9 : t 9 = I 0) : Tells (fun q => loopN (L_precentorlaw25_TraceCauses_15 Try.prog (acallX Try.prog X q) q) q t g) fun z g' => z.1 = .exit 4 ∧ Ext [] g g' ∧ ∀ j, j ≤ 8 → z.2 j = t j := by
  have hil := (List.getElem?_eq_some_iff.1 hi).1
  refine Tells.loop (fun n t' g' => ∃ j : Nat, t' 9 = I j ∧ j + n = i ∧ Ext [] g g' ∧ ∀ j, j ≤ 8 → t' j = t j) ?_ i _ _ ?_
  · rintro n u g1 ⟨j, u9, hj, x, fr⟩
    have u3 : u 3 = v := (fr 3 (by decide)).trans t3
    have u4 : u 4 = I i := (fr 4 (by decide)).trans t4
    have u8 : u 8 = cv := (fr 8 (by decide)).trans t8
    refine Tells.prot fun Q2 hQ2 => ?_
    unfold L_precentorlaw25_TraceCauses_15
    simp [u9, u4]
    refine Tells.cb (fun hc => ?_) (fun hc => ?_)
    · simp at hc
      obtain ⟨k, hk⟩ : ∃ k, m[j]? = some k := ⟨_, List.getElem?_eq_getElem (by omega)⟩
      obtain ⟨b, p, B, q1, q2, q3, q4, q5, q6, q7, q8, q9⟩ := mk_at (o.ext x) hk
      have w : IntKind.i64.wrap ((j : Int) + 1) = j + 1 := wrap_id (by omega) (by omega)
      simp [J_precentorlaw25_TraceCauses_16, u9, u3, q1, q2, q8, q9, bldR, fillR, splice]
      refine Tells.newV fun g2 yb oy y2 ly => ?_
      refine Tells.stNE oy (ds := [I k.f, I k.s]) (by rfl) (by rfl) (by rfl) (by rfl) fun g3 oy3 y3 => ?_
      have x3 := x.then (y2.then y3 (S := []) (by simp; omega)) (by simp)
      obtain ⟨b', p', B', r1, r2, r3, r4, r5, r6, r7, r8, r9⟩ := mk_at (o.ext x3) hk
      obtain ⟨b0, p0, B0, s1, s2, s3, s4, s5, s6, s7, s8, s9⟩ := mk_at (o.ext x3) hi
      cases q1.symm.trans r1
      -- what comes of it
      have fin : ∀ (g4 : Heap) (t' : T), Ext [] g g4 → Ob g4 yb (idC (mid k)) → t' 3 = v → t' 4 = I i → t' 8 = cv → t' 9 = I j → t' 10 = .ptr yb 0 → (∀ z, z ≤ 8 → t' z = t z) → Tells (fun z => J_precentorlaw25_TraceCauses_18 Try.prog (acallX Try.prog X z) z (blkK 5 (sqK (J_precentorlaw25_TraceCauses_17 Try.prog (acallX Try.prog X z) z okK) okK)) t' g4) Q2 := by
        intro g4 t' x4 oy4 e3 e4 e8 e9 e10 fr'
        obtain ⟨b', p', B', r1, r2, r3, r4, r5, r6, r7, r8, r9⟩ := mk_at (o.ext x4) hk
        obtain ⟨b0, p0, B0, s1, s2, s3, s4, s5, s6, s7, s8, s9⟩ := mk_at (o.ext x4) hi
        have oye := oy4.1
        simp only [idC] at oye
        unfold J_precentorlaw25_TraceCauses_18
        simp [e3, e9, e4, r1, r2, r7, s1, s2, s7]
        by_cases hcc : k.c = k0.c
        · simp [hcc, e8, e10, oye]
          have hat : Tells (fun q => acallX Try.prog X q F_precentorlaw25_at [cv, .agg [I (mid k).1, I (mid k).2]] g4) _ := law_at hX (oL.ext x4) (by omega) (mid k)
          refine Tells.cbE hat ?_
          rintro _ g5 ⟨rfl, x5⟩
          have hpos := posF_in (hin j k hk hc hcc)
          have hge : ¬ posF L (mid k) - 1 < 0 := by rw [hpos]; omega
          simp [hge, J_precentorlaw25_TraceCauses_17, e9, w]
          refine Tells.ok (hQ2 _ _ (.inl ⟨rfl, n - 1, by omega, j + 1, by simp, by omega, x4.trans x5, fun z hz => ?_⟩))
          simp only [upd]
          repeat rw [if_neg (by omega)]
          exact fr' z hz
        · have e : (k.c == k0.c) = false := by simpa using hcc
          simp [hcc, e, J_precentorlaw25_TraceCauses_17, e9, w]
          refine Tells.ok (hQ2 _ _ (.inl ⟨rfl, n - 1, by omega, j + 1, by simp, by omega, x4, fun z hz => ?_⟩))
          simp only [upd]
          repeat rw [if_neg (by omega)]
          exact fr' z hz
      simp [u9, u3, r1, r2, r6]
      by_cases hsent : k.sent = true
      · simp [hsent, u9, u3, r1, r2, r7]
        refine Tells.st1 oy3 (by rfl) (by rfl) (by simp) fun g4 oy4 y4 => ?_
        have x4 : Ext [] g g4 := x3.then y4 (by simp; have := x.next; omega)
        refine fin g4 _ x4 ?_ (by simp [u3]) (by simp [u4]) (by simp [u8]) (by simp [u9]) (by simp) fun z hz => ?_
        · have : idC (mid k) = [I k.f, I k.s].set 0 (I k.c) := by simp [idC, mid, hsent]
          rw [this]; exact oy4
        · simp only [upd]
          repeat rw [if_neg (by omega)]
          exact fr z hz
      · have e : k.sent = false := by simpa using hsent
        simp [e]
        refine fin g3 _ x3 ?_ (by simp [u3]) (by simp [u4]) (by simp [u8]) (by simp [u9]) (by simp) fun z hz => ?_
        · have : idC (mid k) = [I k.f, I k.s] := by simp [idC, mid, e]
          rw [this]; exact oy3
        · simp only [upd]
          repeat rw [if_neg (by omega)]
          exact fr z hz
    · simp at hc
      refine Tells.ok (hQ2 _ _ (.inr ⟨by simp, rfl, x, fun z hz => ?_⟩))
      simp only [upd]
      repeat rw [if_neg (by omega)]
      exact fr z hz
  · exact ⟨0, t9, by omega, .refl, fun _ _ => rfl⟩

/-- Causes of a cause are causes. -/
theorem tc_all (hX : OnlyKnown X) {g : Heap} {cv dv : AVal} {L D : Ids} {t : T} (oL : Sl idR g cv L) (hL : L.length ≤ 100) (oD : Sl idR g dv D) (hD : D.length ≤ 100) (hin : ∀ z, z ∈ D → z ∈ L) (t8 : t 8 = cv) (t12 : t 12 = dv) (t13 : t 13 = I 0) :
    Tells (fun q => loopN (L_precentorlaw25_TraceCauses_12 Try.prog (acallX Try.prog X q) q) q t g) fun z g' => z.1 = .exit 8 ∧ Ext [] g g' ∧ ∀ j, j ≤ 12 → z.2 j = t j := by
  refine Tells.loop (fun n t' g' => ∃ j : Nat, t' 13 = I j ∧ j + n = D.length ∧ Ext [] g g' ∧ ∀ j, j ≤ 12 → t' j = t j) ?_ D.length _ _ ?_
  · rintro n u g1 ⟨j, u13, hj, x, fr⟩
    have u8 : u 8 = cv := (fr 8 (by decide)).trans t8
    have u12 : u 12 = dv := (fr 12 (by decide)).trans t12
    refine Tells.prot fun Q2 hQ2 => ?_
    unfold L_precentorlaw25_TraceCauses_12
    simp [u13, u12, (oD.ext x).len]
    refine Tells.cb (fun hc => ?_) (fun hc => ?_)
    · simp at hc
      obtain ⟨z, hz⟩ : ∃ z, D[j]? = some z := ⟨_, List.getElem?_eq_getElem hc⟩
      obtain ⟨b, p, B, q1, q2, q3, q4, q5, q6, q7⟩ := id_at (oD.ext x) hz
      have w : IntKind.i64.wrap ((j : Int) + 1) = j + 1 := wrap_id (by omega) (by omega)
      simp [J_precentorlaw25_TraceCauses_13, u13, u12, u8, q1, q2, q3, q4]
      have hat : Tells (fun q => acallX Try.prog X q F_precentorlaw25_at [cv, .agg [I z.1, I z.2]] g1) _ := law_at hX (oL.ext x) (by omega) z
      refine Tells.bind hat ?_
      rintro _ g2 ⟨rfl, x2⟩
      have hpos := posF_in (hin z (List.mem_of_getElem? hz))
      have hge : ¬ posF L z - 1 < 0 := by rw [hpos]; omega
      simp [hge, J_precentorlaw25_TraceCauses_14, u13, w]
      refine Tells.ok (hQ2 _ _ (.inl ⟨rfl, n - 1, by omega, j + 1, by simp, by omega, x.trans x2, fun z hz => ?_⟩))
      simp only [upd]
      repeat rw [if_neg (by omega)]
      exact fr z hz
    · simp at hc
      refine Tells.ok (hQ2 _ _ (.inr ⟨by simp, rfl, x, fun z hz => ?_⟩))
      simp only [upd]
      repeat rw [if_neg (by omega)]
      exact fr z hz
  · exact ⟨0, t13, by omega, .refl, fun _ _ => rfl⟩
end
end Go.Proofs.Ytochkdifpgelmaa

/-! What the document's id, less, at, Heard, first, put, clients tell. -/
namespace Go.Proofs.Ytochkdifpgelmaa
open Go.Ab

section
variable {X : XTab}
theorem ref_id (hX : OnlyKnown X) (m : Mk) (h : Heap) : Tells (fun q => acallX Try.prog X q F_precentorref23_id [.agg (mkC m)] h) fun v h' => v = .agg (idC (mid m)) ∧ Ext [] h h' := by
  refine R_precentorref23_id _ (hX _ _ rfl) ?_
  refine Tells.prot fun Q' hQ => ?_
  unfold S_precentorref23_id
  simp
  refine Tells.box (cs := mkC m) (by rfl) (by rfl) fun h1 b1 o1 x1 l1 => ?_
  refine Tells.new fun h2 b2 o2 x2 l2 => ?_
  have o1' := o1.e x2
  have hne : b2 ≠ b1 := by have := o1.lt; omega
  simp [o1'.1, mkC]
  refine Tells.cb (fun hc => ?_) (fun hc => ?_)
  · simp [bldR, fillR, splice]
    refine Tells.stN o2 (ds := [I m.c, I m.s]) (by rfl) (by rfl) (by rfl) (by rfl) fun h3 o3 x3 => ?_
    simp [C_precentorref23_id_0, o3.1]
    exact Tells.ok (hQ _ _ ⟨by simp [mid, hc, idC], (x1.trans x2).then x3 (by simp; have := x1.next; omega)⟩)
  · simp [J_precentorref23_id_0, o1'.1, mkC, bldR, fillR, splice]
    refine Tells.stN o2 (ds := [I m.f, I m.s]) (by rfl) (by rfl) (by rfl) (by rfl) fun h3 o3 x3 => ?_
    simp [C_precentorref23_id_0, o3.1]
    exact Tells.ok (hQ _ _ ⟨by simp [mid, hc, idC], (x1.trans x2).then x3 (by simp; have := x1.next; omega)⟩)

theorem ref_less (hX : OnlyKnown X) (a b : Int × Int) (h : Heap) : Tells (fun q => acallX Try.prog X q F_precentorref23_less [.agg (idC a), .agg (idC b)] h) fun v h' => v = .bool (lt2 a b) ∧ Ext [] h h' := by
  refine R_precentorref23_less _ _ (hX _ _ rfl) ?_
  refine Tells.prot fun Q' hQ => ?_
  unfold S_precentorref23_less
  simp
  refine Tells.box (cs := idC a) (by rfl) (by rfl) fun h1 b1 o1 x1 l1 => ?_
  refine Tells.box (cs := idC b) (by rfl) (by rfl) fun h2 b2 o2 x2 l2 => ?_
  have o1' := o1.e x2
  simp [o1'.1, o2.1, idC]
  by_cases q1 : a.1 < b.1
  · simp [q1]
    exact Tells.ok (hQ _ _ ⟨by simp [lt2, q1], x1.trans x2⟩)
  · by_cases q2 : a.1 = b.1
    · simp [q1, q2, o1'.1, o2.1, idC]
      refine Tells.ok (hQ _ _ ⟨?_, x1.trans x2⟩)
      simp [lt2, q2]
    · have q2' : (a.1 == b.1) = false := by simpa using q2
      simp [q1, q2', o1'.1, o2.1, idC]
      refine Tells.ok (hQ _ _ ⟨?_, x1.trans x2⟩)
      simp [lt2, q1, q2]

theorem ref_at (hX : OnlyKnown X) {h : Heap} {v : AVal} {l : Ids} (o : Sl idR h v l) (hl : l.length ≤ 1000) (y : Int × Int) : Tells (fun q => acallX Try.prog X q F_precentorref23_at [v, .agg (idC y)] h) fun r h' => r = I (posF l y - 1) ∧ Ext [] h h' := by
  refine R_precentorref23_at _ _ (hX _ _ rfl) ?_
  refine Tells.prot fun Q' hQ => ?_
  unfold S_precentorref23_at
  simp
  refine Tells.box (cs := idC y) (by rfl) (by rfl) fun h1 bx ox x1 lx => ?_
  have oxe := ox.1
  simp only [idC] at oxe
  try simp
  refine Tells.bind (Tells.loop (fun n t g => ∃ i : Nat, t 0 = v ∧ t 3 = .ptr bx 0 ∧ t 5 = I i ∧ i + n = l.length ∧ g = h1 ∧ y ∉ l.take i)
    (Q := fun p g => g = h1 ∧ ((p.1 = .exit 0 ∧ posF l y = 0) ∨ (p.1 = .ret ∧ p.2 4 = I (posF l y - 1)))) ?_ l.length _ _ ?_) ?_
  · rintro n t g ⟨i, t0, t3, t5, hi, rfl, hno⟩
    refine Tells.prot fun Q2 hQ2 => ?_
    unfold L_precentorref23_at_1
    simp [t5, t0, (o.ext x1).len]
    refine Tells.cb (fun hc => ?_) (fun hc => ?_)
    · simp at hc
      obtain ⟨k, hk⟩ : ∃ k, l[i]? = some k := ⟨_, List.getElem?_eq_getElem hc⟩
      obtain ⟨b, p, B, q1, q2, q3, q4, q5, q6, q7⟩ := id_at (o.ext x1) hk
      have htk : l.take (i + 1) = l.take i ++ [k] := by rw [List.take_add_one, hk]; rfl
      have w : IntKind.i64.wrap ((i : Int) + 1) = i + 1 := wrap_id (by omega) (by omega)
      simp [J_precentorref23_at_2, t5, t0, t3, q1, q2, q3, q4, oxe, aBin_eql2 two30]
      by_cases hq : k = y
      · subst hq
        simp [t5]
        refine Tells.ok (hQ2 _ _ (.inr ⟨by simp, rfl, .inr ⟨rfl, ?_⟩⟩))
        rw [posF_take hk hno]
        simp
      · have hne : ¬ (k.1 = y.1 ∧ k.2 = y.2) := fun z => hq (Prod.ext z.1 z.2)
        have hne' : (k.1 == y.1 && k.2 == y.2) = false := by
          cases hb : (k.1 == y.1 && k.2 == y.2) with
          | false => rfl
          | true => simp at hb; exact absurd hb hne
        simp [hne, hne', J_precentorref23_at_3, t5, w]
        refine Tells.ok (hQ2 _ _ (.inl ⟨rfl, n - 1, by omega, i + 1, by simp [t0], by simp [t3], by simp, by omega, rfl, fun hz => ?_⟩))
        rw [htk] at hz
        rcases List.mem_append.1 hz with q | q
        · exact hno q
        · simp at q; exact hq q.symm
    · simp at hc
      rw [List.take_of_length_le (by omega)] at hno
      exact Tells.ok (hQ2 _ _ (.inr ⟨by simp, rfl, .inl ⟨rfl, posF_out hno⟩⟩))
  · exact ⟨0, by simp, by simp, by simp, by omega, rfl, by simp⟩
  · rintro ⟨ex, t⟩ g ⟨rfl, ⟨rfl, ho⟩ | ⟨rfl, t4⟩⟩
    · simp [J_precentorref23_at_0]
      exact Tells.ok (hQ _ _ ⟨by rw [ho]; rfl, x1⟩)
    · simp
      exact Tells.ok (hQ _ _ ⟨t4, x1⟩)


theorem ref_atC (hX : OnlyKnown X) {g : Heap} {v : AVal} {l : Ids} (o : Sl idR g v l) (hl : l.length ≤ 1000) (y : Int × Int) : Tells (fun q => acallX Try.prog X q F_precentorref23_at [v, .agg [I y.1, I y.2]] g) fun r h' => r = I (posF l y - 1) ∧ Ext [] g h' := ref_at hX o hl y
theorem ref_idC (hX : OnlyKnown X) (m : Mk) (h : Heap) : Tells (fun q => acallX Try.prog X q F_precentorref23_id [.agg [.bool m.sent, I m.c, I m.f, I m.s]] h) fun v h' => v = .agg (idC (mid m)) ∧ Ext [] h h' := ref_id hX m h

theorem ref_Heard (hX : OnlyKnown X) {h : Heap} {v : AVal} {l : List Mk} (o : Sl mkR h v l) (hl : l.length ≤ 100) (c : Int) : Tells (fun q => acallX Try.prog X q F_precentorref23_Heard [v, I c] h) fun r h' => Gl idR h h' r (heardL l c) ∧ Ext [] h h' := by
  refine R_precentorref23_Heard _ _ (hX _ _ rfl) ?_
  refine Tells.prot fun Q' hQ => ?_
  unfold S_precentorref23_Heard
  simp
  refine Tells.bind (Tells.loop (fun n t g => ∃ i : Nat, t 0 = v ∧ t 1 = I c ∧ t 6 = I i ∧ i + n = l.length ∧ Gl idR h g (t 5) (heardL (l.take i) c) ∧ Ext [] h g)
    (Q := fun p g => p.1 = .exit 0 ∧ Gl idR h g (p.2 5) (heardL l c) ∧ Ext [] h g) ?_ l.length _ _ ?_) ?_
  · rintro n t g ⟨i, t0, t1, t6, hi, go, x⟩
    refine Tells.prot fun Q2 hQ2 => ?_
    unfold L_precentorref23_Heard_1
    simp [t6, t0, (o.ext x).len]
    refine Tells.cb (fun hc => ?_) (fun hc => ?_)
    · simp at hc
      obtain ⟨m, hm⟩ : ∃ m, l[i]? = some m := ⟨_, List.getElem?_eq_getElem hc⟩
      obtain ⟨b, p, B, q1, q2, q3, q4, q5, q6, q7, q8, q9⟩ := mk_at (o.ext x) hm
      have htake : heardL (l.take (i + 1)) c = heardL (l.take i) c ++ heardL [m] c := by rw [List.take_add_one, hm, ← heardL_app]; rfl
      have w : IntKind.i64.wrap ((i : Int) + 1) = i + 1 := wrap_id (by omega) (by omega)
      simp [J_precentorref23_Heard_2, t6, t0, q1, q2, q6]
      by_cases k1 : m.sent = true
      · simp [k1, J_precentorref23_Heard_3, t6, w]
        refine Tells.ok (hQ2 _ _ (.inl ⟨rfl, n - 1, by omega, i + 1, by simp [t0], by simp [t1], by simp, by omega, ?_, x⟩))
        rw [htake]
        simpa [heardL, heardBy, k1] using go
      · have k1' : m.sent = false := by simpa using k1
        by_cases k2 : m.c = c
        · simp [k1', k2, t0, t1, t6, q1, q2, q7, q3, q4]
          refine Tells.bind (by simpa [k1', k2] using ref_idC hX m g) ?_
          rintro _ h2 ⟨rfl, x2⟩
          try simp
          refine Tells.app1 (r := idR) (go.e x2) (by rfl) (by rfl) (x := mid m) (by rfl) (by rfl) (by rfl) (by have := heardL_len (l.take i) c; simp at this; omega) (by decide) (x.trans x2).next fun s3 h3 g3 x3 y3 z3 => ?_
          simp [J_precentorref23_Heard_3, t6, w]
          refine Tells.ok (hQ2 _ _ (.inl ⟨rfl, n - 1, by omega, i + 1, by simp [t0], by simp [t1], by simp, by omega, ?_, y3 _ (x.trans x2)⟩))
          rw [htake]
          simpa [heardL, heardBy, k1', k2] using g3
        · have k2' : (m.c == c) = false := by simpa using k2
          simp [k1', k2, k2', t0, t1, t6, q1, q2, q7, J_precentorref23_Heard_3, w]
          refine Tells.ok (hQ2 _ _ (.inl ⟨rfl, n - 1, by omega, i + 1, by simp [t0], by simp [t1], by simp, by omega, ?_, x⟩))
          rw [htake]
          simpa [heardL, heardBy, k1', k2] using go
    · simp at hc
      refine Tells.ok (hQ2 _ _ (.inr ⟨by simp, rfl, ?_, x⟩))
      rw [List.take_of_length_le (by omega)] at go
      simpa using go
  · exact ⟨0, by simp, by simp, by simp, by omega, by simpa [heardL] using Gl.nil, .refl⟩
  · rintro ⟨ex, t⟩ g ⟨rfl, go, x⟩
    simp [J_precentorref23_Heard_0]
    exact Tells.ok (hQ _ _ ⟨go, x⟩)

theorem ref_first (hX : OnlyKnown X) {h : Heap} {v : AVal} {l : List Mk} (o : Sl mkR h v l) (hl : l.length ≤ 100) (c : Int) : Tells (fun q => acallX Try.prog X q F_precentorref23_first [v, I c] h) fun r h' => Gl idR h h' r (firF l c) ∧ Ext [] h h' := by
  refine R_precentorref23_first _ _ (hX _ _ rfl) ?_
  refine Tells.prot fun Q' hQ => ?_
  unfold S_precentorref23_first
  simp
  refine Tells.bind (ref_Heard hX o hl c) ?_
  rintro hv h1 ⟨gh, x1⟩
  have hhl := heardL_len l c
  have hfir : firF l c = ddF (heardL l c) := rfl
  generalize heardL l c = H at *
  try simp
  refine Tells.bind (Tells.loop (fun n t g => ∃ i : Nat, t 6 = hv ∧ t 7 = I i ∧ i + n = H.length ∧ Gl idR h1 g (t 5) (ddF (H.take i)) ∧ Ext [] h1 g)
    (Q := fun p g => p.1 = .exit 0 ∧ Gl idR h1 g (p.2 5) (ddF H) ∧ Ext [] h1 g) ?_ H.length _ _ ?_) ?_
  · rintro n t g ⟨i, t6, t7, hi, go, x⟩
    refine Tells.prot fun Q2 hQ2 => ?_
    unfold L_precentorref23_first_1
    simp [t7, t6, (gh.1.ext x).len]
    refine Tells.cb (fun hc => ?_) (fun hc => ?_)
    · simp at hc
      obtain ⟨k, hk⟩ : ∃ k, H[i]? = some k := ⟨_, List.getElem?_eq_getElem hc⟩
      obtain ⟨b, p, B, q1, q2, q3, q4, q5, q6, q7⟩ := id_at (gh.1.ext x) hk
      have htk : H.take (i + 1) = H.take i ++ [k] := by rw [List.take_add_one, hk]; rfl
      have w : IntKind.i64.wrap ((i : Int) + 1) = i + 1 := wrap_id (by omega) (by omega)
      have hdl : (ddF (H.take i)).length ≤ 100 := Nat.le_trans (ddF_len _) (by simp; omega)
      simp [J_precentorref23_first_2, t6, t7, q1, q2, q3, q4]
      refine Tells.bind (ref_atC hX go.1 (by omega) k) ?_
      rintro _ g2 ⟨rfl, x2⟩
      by_cases hin : k ∈ ddF (H.take i)
      · have hge : ¬ posF (ddF (H.take i)) k - 1 < 0 := by rw [posF_in hin]; omega
        simp [hge, J_precentorref23_first_3, t7, w]
        refine Tells.ok (hQ2 _ _ (.inl ⟨rfl, n - 1, by omega, i + 1, by simp [t6], by simp, by omega, ?_, x.trans x2⟩))
        rw [htk, ddF_app, insK_in hin]
        simpa using go.e x2
      · have hge : posF (ddF (H.take i)) k - 1 < 0 := by rw [posF_out hin]; omega
        obtain ⟨b', p', B', r1, r2, r3, r4, r5, r6, r7⟩ := id_at ((gh.1.ext x).ext x2) hk
        cases q1.symm.trans r1
        simp [hge, t6, t7, r1, r2, r3, r4]
        refine Tells.app1 (r := idR) (c := [I k.1, I k.2]) (x := k) (go.e x2) (by rfl) (by rfl) (by rfl) (by rfl) (by rfl) (by omega) (by decide) (x.trans x2).next fun s3 h3 g3 x3 y3 z3 => ?_
        simp [J_precentorref23_first_3, t7, w]
        refine Tells.ok (hQ2 _ _ (.inl ⟨rfl, n - 1, by omega, i + 1, by simp [t6], by simp, by omega, ?_, y3 _ (x.trans x2)⟩))
        rw [htk, ddF_app, insK_new hin]
        simpa using g3
    · simp at hc
      refine Tells.ok (hQ2 _ _ (.inr ⟨by simp, rfl, ?_, x⟩))
      rw [List.take_of_length_le (by omega)] at go
      simpa using go
  · exact ⟨0, by simp, by simp, by omega, by simpa [ddF] using Gl.nil, .refl⟩
  · rintro ⟨ex, t⟩ g ⟨rfl, go, x⟩
    simp [J_precentorref23_first_0]
    exact Tells.ok (hQ _ _ ⟨by rw [hfir]; exact go.back x1.next, x1.trans x⟩)

theorem ref_clients (hX : OnlyKnown X) {h : Heap} {v : AVal} {l : List Mk} (o : Sl mkR h v l) (hl : l.length ≤ 100) : Tells (fun q => acallX Try.prog X q F_precentorref23_clients [v] h) fun r h' => Sl intR h' r (cliF l) ∧ Ext [] h h' := by
  refine R_precentorref23_clients _ (hX _ _ rfl) ?_
  refine Tells.prot fun Q' hQ => ?_
  unfold S_precentorref23_clients
  simp
  refine Tells.bind (Tells.loop (fun n t g => ∃ i : Nat, t 0 = v ∧ t 4 = I i ∧ i + n = l.length ∧ Gl intR h g (t 3) (cliF (l.take i)) ∧ Ext [] h g)
    (Q := fun p g => p.1 = .exit 0 ∧ Gl intR h g (p.2 3) (cliF l) ∧ Ext [] h g) ?_ l.length _ _ ?_) ?_
  · rintro n t g ⟨i, t0, t4, hi, go, x⟩
    refine Tells.prot fun Q2 hQ2 => ?_
    unfold L_precentorref23_clients_1
    simp [t4, t0, (o.ext x).len]
    refine Tells.cb (fun hc => ?_) (fun hc => ?_)
    · simp at hc
      obtain ⟨m, hm⟩ : ∃ m, l[i]? = some m := ⟨_, List.getElem?_eq_getElem hc⟩
      obtain ⟨b, p, B, q1, q2, q3, q4, q5, q6, q7, q8, q9⟩ := mk_at (o.ext x) hm
      have htk : l.take (i + 1) = l.take i ++ [m] := by rw [List.take_add_one, hm]; rfl
      have w : IntKind.i64.wrap ((i : Int) + 1) = i + 1 := wrap_id (by omega) (by omega)
      have hcl : (cliF (l.take i)).length ≤ 100 := by
        refine Nat.le_trans (ddF_len _) ?_
        rw [List.length_map]
        exact Nat.le_trans (List.length_filter_le _ _) (by simp; omega)
      simp [J_precentorref23_clients_2, t4, t0, q1, q2, q6]
      generalize hC : cliF (l.take i) = C at *
      refine Tells.bind (Tells.loop (fun n' u g' => ∃ j : Nat, g' = g ∧ u 0 = v ∧ u 3 = t 3 ∧ u 4 = I i ∧ u 6 = I j ∧ j + n' = C.length ∧ u 5 = .bool (m.sent || decide (m.c ∈ C.take j)))
        (Q := fun p g' => p.1 = .exit 2 ∧ g' = g ∧ p.2 0 = v ∧ p.2 3 = t 3 ∧ p.2 4 = I i ∧ p.2 5 = .bool (m.sent || decide (m.c ∈ C))) ?_ C.length _ _ ?_) ?_
      · rintro n' u g' ⟨j, rfl, u0, u3, u4, u6, hj, u5⟩
        refine Tells.prot fun Q3 hQ3 => ?_
        unfold L_precentorref23_clients_5
        simp [u6, u3, go.1.len]
        refine Tells.cb (fun hd => ?_) (fun hd => ?_)
        · simp at hd
          obtain ⟨c, hcj⟩ : ∃ c, C[j]? = some c := ⟨_, List.getElem?_eq_getElem hd⟩
          obtain ⟨b2, p2, B2, r1, r2, r3⟩ := go.1.atI hcj
          have htk2 : C.take (j + 1) = C.take j ++ [c] := by rw [List.take_add_one, hcj]; rfl
          have w2 : IntKind.i64.wrap ((j : Int) + 1) = j + 1 := wrap_id (by omega) (by omega)
          obtain ⟨bl, hb⟩ : ∃ bl, (m.sent || decide (m.c ∈ C.take j)) = bl := ⟨_, rfl⟩
          rw [hb] at u5
          simp [J_precentorref23_clients_6, u5]
          cases bl with
          | true =>
            simp [J_precentorref23_clients_7, u6, w2]
            refine Tells.ok (hQ3 _ _ (.inl ⟨rfl, n' - 1, by omega, j + 1, rfl, by simp [u0], by simp [u3], by simp [u4], by simp, by omega, ?_⟩))
            rw [htk2]
            simp at hb
            rcases hb with q | q <;> simp [q]
          | false =>
            simp at hb
            simp [hb.1, hb.2, u0, u3, u4, u6, r1, r2, r3, q1, q2, q7, J_precentorref23_clients_7, w2]
            refine Tells.ok (hQ3 _ _ (.inl ⟨rfl, n' - 1, by omega, j + 1, rfl, by simp [u0], by simp [u3], by simp [u4], by simp, by omega, ?_⟩))
            rw [htk2]
            simp [hb.1, hb.2]
            by_cases e : c = m.c
            · simp [e]
            · have : ¬ m.c = c := fun z => e z.symm
              simp [e, this]
        · simp at hd
          refine Tells.ok (hQ3 _ _ (.inr ⟨by simp, rfl, rfl, by simp [u0], by simp [u3], by simp [u4], ?_⟩))
          rw [List.take_of_length_le (by omega)] at u5
          simpa using u5
      · exact ⟨0, rfl, by simp [t0], by simp, by simp [t4], by simp, by omega, by simp⟩
      · rintro ⟨ex, u⟩ g' ⟨rfl, rfl, u0, u3, u4, u5⟩
        have u0 : u 0 = v := u0
        have u3 : u 3 = t 3 := u3
        have u4 : u 4 = I i := u4
        have u5 : u 5 = .bool (m.sent || decide (m.c ∈ C)) := u5
        obtain ⟨bl, hb⟩ : ∃ bl, (m.sent || decide (m.c ∈ C)) = bl := ⟨_, rfl⟩
        rw [hb] at u5
        simp [J_precentorref23_clients_4, u5]
        cases bl with
        | true =>
          simp [J_precentorref23_clients_3, u4, w]
          refine Tells.ok (hQ2 _ _ (.inl ⟨rfl, n - 1, by omega, i + 1, by simp [u0], by simp, by omega, ?_, x⟩))
          have : cliF (l.take (i + 1)) = C := by
            rw [htk]
            cases hs : m.sent with
            | true => rw [cliF_sent _ hs, hC]
            | false => rw [hs] at hb; simp at hb; rw [cliF_heard _ hs, hC, insK_in hb]
          rw [this]
          simpa [u3] using go
        | false =>
          simp at hb
          simp [hb.1, hb.2, u0, u3, u4, q1, q2, q7]
          refine Tells.app1 (r := intR) (c := [I m.c]) (x := m.c) go (by rfl) (by rfl) (by rfl) (by rfl) (by rfl) (by omega) (by decide) x.next fun s3 h3 g3 x3 y3 z3 => ?_
          simp [J_precentorref23_clients_3, u4, w]
          refine Tells.ok (hQ2 _ _ (.inl ⟨rfl, n - 1, by omega, i + 1, by simp [u0], by simp, by omega, ?_, y3 _ x⟩))
          have : cliF (l.take (i + 1)) = C ++ [m.c] := by rw [htk, cliF_heard _ hb.1, hC, insK_new hb.2]
          rw [this]
          simpa using g3
    · simp at hc
      refine Tells.ok (hQ2 _ _ (.inr ⟨by simp, rfl, ?_, x⟩))
      rw [List.take_of_length_le (by omega)] at go
      simpa using go
  · exact ⟨0, by simp, by simp, by omega, by simpa [cliF, ddF] using Gl.nil, .refl⟩
  · rintro ⟨ex, t⟩ g ⟨rfl, go, x⟩
    have go : Gl intR h g (t 3) (cliF l) := go
    simp [J_precentorref23_clients_0]
    exact Tells.ok (hQ _ _ ⟨go.1, x⟩)
end
end Go.Proofs.Ytochkdifpgelmaa

/-! What the document's put, Once, Agree tell. -/
namespace Go.Proofs.Ytochkdifpgelmaa
open Go.Ab

theorem lt2_asymm {a b : Int × Int} (h : lt2 a b = true) : lt2 b a = false := by
  cases q : lt2 b a with
  | false => rfl
  | true => have := lt2_trans h q; rw [lt2_irrefl] at this; cases this
theorem layF_in {l : Ids} {y : Int × Int} (hr : Rise2 l) (hy : y ∈ l) : layF l y = l := by
  obtain ⟨i, hi⟩ := List.mem_iff_getElem?.1 hy
  have hil := (List.getElem?_eq_some_iff.1 hi).1
  have e : l = l.take i ++ l.drop i := (List.take_append_drop _ _).symm
  have hd : l.drop i = y :: l.drop (i + 1) := by
    rw [List.drop_eq_getElem_cons hil]
    rw [List.getElem?_eq_getElem hil] at hi
    cases hi; rfl
  have hp : (l.take i ++ l.drop i).Pairwise fun a b => lt2 a b = true := e ▸ hr
  have : layN l y = i := layN_of (fun z hz => (List.pairwise_append.1 hp).2.2 z hz y (by rw [hd]; simp)) (by omega) fun z hz => by rw [hi] at hz; cases hz; exact lt2_irrefl y
  unfold layF
  rw [this, if_pos hi]

section
variable {X : XTab}
theorem ref_lessC (hX : OnlyKnown X) (a b : Int × Int) (h : Heap) : Tells (fun q => acallX Try.prog X q F_precentorref23_less [.agg [I a.1, I a.2], .agg [I b.1, I b.2]] h) fun v h' => v = .bool (lt2 a b) ∧ Ext [] h h' := ref_less hX a b h
theorem ref_put (hX : OnlyKnown X) {h : Heap} {v : AVal} {l : Ids} (o : Sl idR h v l) (hl : l.length ≤ 1000) (hr : Rise2 l) (y : Int × Int) : Tells (fun q => acallX Try.prog X q F_precentorref23_put [v, .agg (idC y)] h) fun r h' => Sl idR h' r (layF l y) ∧ Ext [] h h' := by
  refine R_precentorref23_put _ _ (hX _ _ rfl) ?_
  refine Tells.prot fun Q' hQ => ?_
  unfold S_precentorref23_put
  simp
  refine Tells.box (cs := idC y) (by rfl) (by rfl) fun h1 bx ox x1 lx => ?_
  have oxe := ox.1
  simp only [idC] at oxe
  simp [oxe]
  refine Tells.bind (ref_atC hX (o.ext x1) hl y) ?_
  rintro _ h2 ⟨rfl, x2⟩
  by_cases hin : y ∈ l
  · have hge : 1 ≤ posF l y := by rw [posF_in hin]; omega
    simp [hge]
    exact Tells.ok (hQ _ _ ⟨by rw [layF_in hr hin]; exact (o.ext x1).ext x2, x1.trans x2⟩)
  · have hge : ¬ 1 ≤ posF l y := by rw [posF_out hin]; omega
    simp [hge, J_precentorref23_put_0]
    have x02 := x1.trans x2
    have ox2 := ox.e x2
    refine Tells.bind (Tells.loop (fun n t g => ∃ (i p : Nat) (inn : Bool), t 0 = v ∧ t 3 = .ptr bx 0 ∧ t 6 = .bool inn ∧ t 7 = I i ∧ i + n = l.length ∧ p ≤ i ∧ Ext [] h g ∧ Ob g bx (idC y) ∧ (∀ z, z ∈ l.take p → lt2 z y = true) ∧ (inn = false → p = i ∧ Gl idR h g (t 5) (l.take i)) ∧
        (inn = true → p < i ∧ (∃ z, l[p]? = some z ∧ lt2 y z = true) ∧ Gl idR h g (t 5) (l.take p ++ [y] ++ (l.take i).drop p)))
      (Q := fun w g => w.1 = .exit 0 ∧ Ext [] h g ∧ Ob g bx (idC y) ∧ ∃ (p : Nat) (inn : Bool), w.2 3 = .ptr bx 0 ∧ w.2 6 = .bool inn ∧ p ≤ l.length ∧ (∀ z, z ∈ l.take p → lt2 z y = true) ∧ (inn = false → p = l.length ∧ Gl idR h g (w.2 5) l) ∧
        (inn = true → (∃ z, l[p]? = some z ∧ lt2 y z = true) ∧ Gl idR h g (w.2 5) (l.take p ++ [y] ++ l.drop p))) ?_ l.length _ _ ?_) ?_
    · rintro n t g ⟨i, p, inn, t0, t3, t6, t7, hi, hp, x, oy, hlt, hf, ht⟩
      refine Tells.prot fun Q2 hQ2 => ?_
      unfold L_precentorref23_put_3
      have og := o.ext x
      have oxg := oy.1
      simp only [idC] at oxg
      simp [t7, t0, og.len]
      refine Tells.cb (fun hc => ?_) (fun hc => ?_)
      · simp at hc
        obtain ⟨k, hk⟩ : ∃ k, l[i]? = some k := ⟨_, List.getElem?_eq_getElem hc⟩
        have htk : l.take (i + 1) = l.take i ++ [k] := by rw [List.take_add_one, hk]; rfl
        have w : IntKind.i64.wrap ((i : Int) + 1) = i + 1 := wrap_id (by omega) (by omega)
        have hky : k ≠ y := fun q => hin (q ▸ List.mem_of_getElem? hk)
        -- the element itself is told
        have tell : ∀ (g2 : Heap) (t' : T) (out : Ids) (p' : Nat) (inn' : Bool), Ext [] h g2 → Ob g2 bx (idC y) → t' 0 = v → t' 3 = .ptr bx 0 → t' 6 = .bool inn' → t' 7 = I i → Gl idR h g2 (t' 5) out → out.length ≤ 2000 → p' ≤ i → (∀ z, z ∈ l.take p' → lt2 z y = true) → (inn' = false → p' = i ∧ out = l.take i ∧ lt2 k y = true) →
            (inn' = true → p' ≤ i ∧ (∃ z, l[p']? = some z ∧ lt2 y z = true) ∧ out = l.take p' ++ [y] ++ (l.take i).drop p') →
            Tells (fun q => J_precentorref23_put_6 Try.prog (acallX Try.prog X q) q (blkK 1 (sqK (J_precentorref23_put_5 Try.prog (acallX Try.prog X q) q okK) okK)) t' g2) Q2 := by
          intro g2 t' out p' inn' xx oy2 e0 e3 e6 e7 go hol hp' hlt' hf' ht'
          obtain ⟨b, pp, B, q1, q2, q3, q4, q5, q6, q7⟩ := id_at (o.ext xx) hk
          unfold J_precentorref23_put_6
          simp [e0, e7, q1, q2, q3, q4]
          refine Tells.app1 (r := idR) (c := [I k.1, I k.2]) (x := k) go (by rfl) (by rfl) (by rfl) (by rfl) (by rfl) (by omega) (by decide) xx.next fun s3 h3 g3 x3 y3 z3 => ?_
          simp [J_precentorref23_put_5, e7, w]
          have hnob : bx ∉ (t' 5).blks := go.1.ob oy2
          cases hb : inn' with
          | false =>
            obtain ⟨a1, a2, a3⟩ := hf' hb
            refine Tells.ok (hQ2 _ _ (.inl ⟨rfl, n - 1, by omega, i + 1, i + 1, false, by simp [e0], by simp [e3], by simp [e6, hb], by simp, by omega, by omega, y3 _ xx, oy2.ext x3 hnob, fun z hz => ?_, fun _ => ⟨rfl, ?_⟩, by simp⟩))
            · rw [htk] at hz
              rcases List.mem_append.1 hz with q | q
              · exact hlt' z (by rw [a1]; exact q)
              · simp at q; rw [q]; exact a3
            · rw [htk, ← a2]; simpa using g3
          | true =>
            obtain ⟨a1, a2, a3⟩ := ht' hb
            refine Tells.ok (hQ2 _ _ (.inl ⟨rfl, n - 1, by omega, i + 1, p', true, by simp [e0], by simp [e3], by simp [e6, hb], by simp, by omega, by omega, y3 _ xx, oy2.ext x3 hnob, hlt', by simp, fun _ => ⟨by omega, a2, ?_⟩⟩))
            have : l.take p' ++ [y] ++ (l.take (i + 1)).drop p' = out ++ [k] := by
              rw [a3, htk, List.drop_append_of_le_length (by simp; omega)]
              simp
            rw [this]
            simpa using g3
        obtain ⟨b, pp, B, q1, q2, q3, q4, q5, q6, q7⟩ := id_at og hk
        simp [J_precentorref23_put_4, t6]
        cases inn with
        | true =>
          obtain ⟨hpi, hz, go⟩ := ht rfl
          simp
          exact tell g _ _ p true x oy (by simp [t0]) (by simp [t3]) (by simp [t6]) (by simp [t7]) (by simpa using go) (by simp; omega) hp hlt (by simp) (fun _ => ⟨hp, hz, rfl⟩)
        | false =>
          obtain ⟨rfl, go⟩ := hf rfl
          simp [t3, oxg, t0, t7, q1, q2, q3, q4]
          refine Tells.cbE (ref_lessC hX y k g) ?_
          rintro _ g2 ⟨rfl, x2'⟩
          have xx := x.trans x2'
          have oy2 := oy.e x2'
          have oye := oy2.1
          simp only [idC] at oye
          by_cases hlk : lt2 y k = true
          · simp [hlk, t3, oye]
            refine Tells.app1 (r := idR) (c := [I y.1, I y.2]) (x := y) (go.e x2') (by rfl) (by rfl) (by rfl) (by rfl) (by rfl) (by simp; omega) (by decide) xx.next fun s3 h3 g3 x3 y3 z3 => ?_
            have hnob : bx ∉ (t 5).blks := (go.e x2').1.ob oy2
            try simp
            refine tell h3 _ _ p true (y3 _ xx) (oy2.ext x3 hnob) (by simp [t0]) (by simp [t3]) (by simp) (by simp [t7]) (by simpa using g3) (by simp; omega) (by omega) hlt (by simp) (fun _ => ⟨by omega, ⟨k, hk, hlk⟩, ?_⟩)
            rw [List.drop_eq_nil_of_le (by simp; omega)]
            simp
          · have hlk' : lt2 y k = false := by simpa using hlk
            simp [hlk']
            exact tell g2 _ _ p false xx oy2 (by simp [t0]) (by simp [t3]) (by simp [t6]) (by simp [t7]) (by simpa using go.e x2') (by simp; omega) (by omega) hlt (fun _ => ⟨rfl, rfl, lt2_total hlk' (fun q => hky q.symm)⟩) (by simp)
      · simp at hc
        have hil : i = l.length := by omega
        subst hil
        refine Tells.ok (hQ2 _ _ (.inr ⟨by simp, rfl, x, oy, p, inn, by simp [t3], by simp [t6], hp, hlt, fun hb => ?_, fun hb => ?_⟩))
        · obtain ⟨a, b⟩ := hf hb
          exact ⟨a, by simpa using b⟩
        · obtain ⟨a, b, c⟩ := ht hb
          exact ⟨b, by simpa using c⟩
    · exact ⟨0, 0, false, by simp, by simp, by simp, by simp, by omega, by omega, x02, ox2, by simp, fun _ => ⟨rfl, by simpa using Gl.nil⟩, by simp⟩
    · rintro ⟨ex, t⟩ g ⟨rfl, x, oy, p, inn, t3, t6, hp, hlt, hf, ht⟩
      have t3 : t 3 = .ptr bx 0 := t3
      have t6 : t 6 = .bool inn := t6
      have oye := oy.1
      simp only [idC] at oye
      have res : (∀ z, l[p]? = some z → lt2 z y = false) → layF l y = l.take p ++ [y] ++ l.drop p := fun hh => by
        have hlay := layN_of hlt hp hh
        unfold layF
        rw [hlay, if_neg (fun q => hin (List.mem_of_getElem? q))]
      simp [J_precentorref23_put_1, t6]
      cases inn with
      | true =>
        obtain ⟨⟨z, hz, hyz⟩, go⟩ := ht rfl
        have go : Gl idR h g (t 5) (l.take p ++ [y] ++ l.drop p) := go
        simp [J_precentorref23_put_2]
        refine Tells.ok (hQ _ _ ⟨?_, x⟩)
        rw [res fun w hw => by rw [hz] at hw; cases hw; exact lt2_asymm hyz]
        simpa using go.1
      | false =>
        obtain ⟨hpl, go⟩ := hf rfl
        have go : Gl idR h g (t 5) l := go
        simp [t3, oye]
        refine Tells.app1 (r := idR) (c := [I y.1, I y.2]) (x := y) go (by rfl) (by rfl) (by rfl) (by rfl) (by rfl) (by omega) (by decide) x.next fun s3 h3 g3 x3 y3 z3 => ?_
        simp [J_precentorref23_put_2]
        refine Tells.ok (hQ _ _ ⟨?_, y3 _ x⟩)
        rw [res fun w hw => by rw [List.getElem?_eq_none (by omega)] at hw; cases hw]
        rw [hpl]
        simpa using g3.1

/-! ### Agree -/

theorem refagr_loop (hX : OnlyKnown X) {g : Heap} {av bv : AVal} {a b : Ids} {t : T} (oa : Sl idR g av a) (ha : a.length ≤ 100) (ob : Sl idR g bv b) (hb : b.length ≤ 100) (t5 : t 5 = av) (t7 : t 7 = bv) (t8 : t 8 = I (-1)) (t9 : t 9 = I 0) :
    Tells (fun q => loopN (L_precentorref23_Agree_7 Try.prog (acallX Try.prog X q) q) q t g) fun p g' => Ext [] g g' ∧ ((p.1 = .exit 4 ∧ agr b 0 a = true ∧ ∀ j, j ≤ 6 → p.2 j = t j) ∨ (p.1 = .ret ∧ agr b 0 a = false ∧ p.2 2 = .bool false)) := by
  refine Tells.loop (fun n t' g' => ∃ (i : Nat) (last : Int), t' 9 = I i ∧ t' 8 = I (last - 1) ∧ 0 ≤ last ∧ last ≤ 1000 ∧ i + n = a.length ∧ Ext [] g g' ∧ agr b last (a.drop i) = agr b 0 a ∧ ∀ j, j ≤ 7 → t' j = t j) ?_ a.length _ _ ?_
  · rintro n u g1 ⟨i, last, u9, u8, hl0, hl1, hi, x, hag, fr⟩
    have u5 : u 5 = av := (fr 5 (by decide)).trans t5
    have u7 : u 7 = bv := (fr 7 (by decide)).trans t7
    refine Tells.prot fun Q2 hQ2 => ?_
    unfold L_precentorref23_Agree_7
    simp [u9, u5, (oa.ext x).len]
    refine Tells.cb (fun hc => ?_) (fun hc => ?_)
    · simp at hc
      obtain ⟨y, hy⟩ : ∃ y, a[i]? = some y := ⟨_, List.getElem?_eq_getElem hc⟩
      obtain ⟨b1, p, B, q1, q2, q3, q4, q5, q6, q7⟩ := id_at (oa.ext x) hy
      have hdr : a.drop i = y :: a.drop (i + 1) := by
        rw [List.drop_eq_getElem_cons hc]
        rw [List.getElem?_eq_getElem hc] at hy
        cases hy; rfl
      have w : IntKind.i64.wrap ((i : Int) + 1) = i + 1 := wrap_id (by omega) (by omega)
      rw [hdr] at hag
      simp only [agr] at hag
      have hp := posF_le b y
      simp [J_precentorref23_Agree_8, u9, u5, u7, q1, q2, q3, q4]
      refine Tells.bind (ref_atC hX (ob.ext x) (by omega) y) ?_
      rintro _ g2 ⟨rfl, x2⟩
      have x02 := x.trans x2
      have go : (!(decide (0 < posF b y) && decide (posF b y < last))) = true → ∀ (t' : T), t' 8 = I (last - 1) → t' 9 = I i → t' 10 = I (posF b y - 1) → (∀ j, j ≤ 7 → t' j = t j) → Tells (fun q => J_precentorref23_Agree_10 Try.prog (acallX Try.prog X q) q (blkK 5 (sqK (J_precentorref23_Agree_9 Try.prog (acallX Try.prog X q) q okK) okK)) t' g2) Q2 := by
        intro hgood t' e8 e9 e10 fr'
        rw [hgood] at hag
        unfold J_precentorref23_Agree_10
        simp [e8, e9, e10, J_precentorref23_Agree_9, w]
        refine Tells.ok (hQ2 _ _ (.inl ⟨rfl, n - 1, by omega, i + 1, max last (posF b y), by simp, ?_, by omega, by omega, by omega, x02, by simpa using hag, fun j hj => ?_⟩))
        · simp
          split <;> omega
        · simp only [upd]
          repeat rw [if_neg (by omega)]
          exact fr' j hj
      by_cases h1 : 0 < posF b y
      · have h1' : 1 ≤ posF b y := by omega
        by_cases h2 : posF b y < last
        · rw [decide_eq_true h1, decide_eq_true h2] at hag
          have h2' : posF b y - 1 < last - 1 := by omega
          simp [h1', h2', h2, u8]
          refine Tells.ok (hQ2 _ _ (.inr ⟨by simp, x02, .inr ⟨rfl, by simpa using hag.symm, by simp⟩⟩))
        · have h2' : ¬ posF b y - 1 < last - 1 := by omega
          simp [h1', h2', h2, u8]
          refine go (by simp; omega) _ (by simp [u8]) (by simp [u9]) (by simp) fun j hj => ?_
          simp only [upd]
          repeat rw [if_neg (by omega)]
          exact fr j hj
      · have h1' : ¬ 1 ≤ posF b y := by omega
        simp [h1']
        refine go (by simp; omega) _ (by simp [u8]) (by simp [u9]) (by simp) fun j hj => ?_
        simp only [upd]
        repeat rw [if_neg (by omega)]
        exact fr j hj
    · simp at hc
      rw [List.drop_of_length_le (by omega)] at hag
      refine Tells.ok (hQ2 _ _ (.inr ⟨by simp, x, .inl ⟨rfl, hag.symm, fun j hj => ?_⟩⟩))
      simp only [upd]
      repeat rw [if_neg (by omega)]
      exact fr j (by omega)
  · exact ⟨0, 0, t9, by simp [t8], by omega, by omega, by omega, .refl, by simp, fun _ _ => rfl⟩

theorem refagr_in (hX : OnlyKnown X) {g : Heap} {v cv av : AVal} {l : List Mk} {C : List Int} {a : Ids} {i : Nat} {t : T} (o : Sl mkR g v l) (hl : l.length ≤ 100) (oc : Sl intR g cv C) (hC : C.length ≤ 100) (oa : Sl idR g av a) (ha : a.length ≤ 100) (hi : i ≤ C.length) (t0 : t 0 = v) (t3 : t 3 = cv) (t4 : t 4 = I i) (t5 : t 5 = av) (t6 : t 6 = I 0) :
    Tells (fun q => loopN (L_precentorref23_Agree_4 Try.prog (acallX Try.prog X q) q) q t g) fun p g' => Ext [] g g' ∧ ((p.1 = .exit 2 ∧ (∀ c, c ∈ C.take i → agr (firF l c) 0 a = true) ∧ ∀ j, j ≤ 5 → p.2 j = t j) ∨ (p.1 = .ret ∧ (∃ c, c ∈ C.take i ∧ agr (firF l c) 0 a = false) ∧ p.2 2 = .bool false)) := by
  refine Tells.loop (fun n t' g' => ∃ (k : Nat), t' 6 = I k ∧ k + n = i ∧ Ext [] g g' ∧ (∀ c, c ∈ C.take k → agr (firF l c) 0 a = true) ∧ ∀ j, j ≤ 5 → t' j = t j) ?_ i _ _ ?_
  · rintro n u g1 ⟨k, u6, hk, x, hall, fr⟩
    have u0 : u 0 = v := (fr 0 (by decide)).trans t0
    have u3 : u 3 = cv := (fr 3 (by decide)).trans t3
    have u4 : u 4 = I i := (fr 4 (by decide)).trans t4
    have u5 : u 5 = av := (fr 5 (by decide)).trans t5
    refine Tells.prot fun Q2 hQ2 => ?_
    unfold L_precentorref23_Agree_4
    simp [u6, u4]
    refine Tells.cb (fun hc => ?_) (fun hc => ?_)
    · simp at hc
      obtain ⟨c, hck⟩ : ∃ c, C[k]? = some c := ⟨_, List.getElem?_eq_getElem (by omega)⟩
      obtain ⟨b1, p, B, q1, q2, q3⟩ := (oc.ext x).atI hck
      have htk : C.take (k + 1) = C.take k ++ [c] := by rw [List.take_add_one, hck]; rfl
      have w : IntKind.i64.wrap ((k : Int) + 1) = k + 1 := wrap_id (by omega) (by omega)
      simp [J_precentorref23_Agree_5, u0, u3, u6, q1, q2, q3]
      refine Tells.bind (ref_first hX (o.ext x) hl c) ?_
      rintro bv g2 ⟨gb, x2⟩
      try simp
      refine Tells.bind (refagr_loop hX (av := av) (bv := bv) ((oa.ext x).ext x2) ha gb.1 (Nat.le_trans (firF_len l c) hl) (by simp [u5]) (by simp) (by simp) (by simp)) ?_
      rintro ⟨ex, t2⟩ g3 ⟨x3, ⟨rfl, hag, f3⟩ | ⟨rfl, hag, h2⟩⟩
      · have k6 : t2 6 = I k := (f3 6 (by decide)).trans (by simp [u6])
        simp [J_precentorref23_Agree_6, k6, w]
        refine Tells.ok (hQ2 _ _ (.inl ⟨rfl, n - 1, by omega, k + 1, by simp, by omega, (x.trans x2).trans x3, fun d hd => ?_, fun j hj => ?_⟩))
        · rw [htk] at hd
          rcases List.mem_append.1 hd with q | q
          · exact hall d q
          · simp at q; subst q; exact hag
        · have : t2 j = _ := f3 j (by omega)
          simp only [upd]
          repeat rw [if_neg (by omega)]
          rw [this]
          simp only [upd]
          repeat rw [if_neg (by omega)]
          exact fr j hj
      · simp
        refine Tells.ok (hQ2 _ _ (.inr ⟨by simp, (x.trans x2).trans x3, .inr ⟨rfl, ⟨c, ?_, hag⟩, h2⟩⟩))
        exact List.mem_of_getElem? (i := k) (by rw [List.getElem?_take, if_pos (by omega)]; exact hck)
    · simp at hc
      have : k = i := by omega
      subst this
      refine Tells.ok (hQ2 _ _ (.inr ⟨by simp, x, .inl ⟨rfl, hall, fun j hj => ?_⟩⟩))
      simp only [upd]
      repeat rw [if_neg (by omega)]
      exact fr j hj
  · exact ⟨0, t6, by omega, .refl, by simp, fun _ _ => rfl⟩

theorem ref_Agree (hX : OnlyKnown X) {h : Heap} {v : AVal} {l : List Mk} (o : Sl mkR h v l) (hl : l.length ≤ 100) : Tells (fun q => acallX Try.prog X q F_precentorref23_Agree [v] h) fun r h' => r = .bool (agreeR (rowsF l)) ∧ Ext [] h h' := by
  refine R_precentorref23_Agree _ (hX _ _ rfl) ?_
  refine Tells.prot fun Q' hQ => ?_
  unfold S_precentorref23_Agree
  simp
  refine Tells.bind (ref_clients hX o hl) ?_
  rintro cv h1 ⟨oc, x1⟩
  have hC : (cliF l).length ≤ 100 := by have := rowsF_len l; simp [rowsF] at this; omega
  have hn : ∀ c, (firF l c).Nodup := fun c => nodup_ddF _
  have hCn : (cliF l).Nodup := nodup_ddF _
  have spec : agreeR (rowsF l) = true ↔ ∀ (i k : Nat) (c d : Int), k < i → (cliF l)[i]? = some c → (cliF l)[k]? = some d → agr (firF l d) 0 (firF l c) = true := by
    unfold agreeR
    rw [agreeG_iff]
    unfold rowsF
    rw [List.pairwise_map, pairwise_idx hCn]
    constructor
    · rintro ⟨_, hh⟩ i k c d hik hc hd
      exact (agr_same (hn c)).2 ((agr_same (hn d)).1 (hh k i d c hik hd hc)).symm
    · intro hh
      exact ⟨by simp, fun k i d c hik hd hc => (agr_same (hn d)).2 ((agr_same (hn c)).1 (hh i k c d hik hc hd)).symm⟩
  generalize hCl : cliF l = C at *
  try simp
  refine Tells.bind (Tells.loop (fun n t g => ∃ i : Nat, t 0 = v ∧ t 3 = cv ∧ t 4 = I i ∧ i + n = C.length ∧ Ext [] h1 g ∧ ∀ (i' k : Nat) (c d : Int), i' < i → k < i' → C[i']? = some c → C[k]? = some d → agr (firF l d) 0 (firF l c) = true)
    (Q := fun p g => Ext [] h1 g ∧ ((p.1 = .exit 0 ∧ agreeR (rowsF l) = true) ∨ (p.1 = .ret ∧ p.2 2 = .bool false ∧ agreeR (rowsF l) = false))) ?_ C.length _ _ ?_) ?_
  · rintro n t g ⟨i, t0, t3, t4, hi, x, hall⟩
    refine Tells.prot fun Q2 hQ2 => ?_
    unfold L_precentorref23_Agree_1
    simp [t4, t3, (oc.ext x).len]
    refine Tells.cb (fun hc => ?_) (fun hc => ?_)
    · simp at hc
      obtain ⟨c, hci⟩ : ∃ c, C[i]? = some c := ⟨_, List.getElem?_eq_getElem hc⟩
      obtain ⟨b1, p, B, q1, q2, q3⟩ := (oc.ext x).atI hci
      have w : IntKind.i64.wrap ((i : Int) + 1) = i + 1 := wrap_id (by omega) (by omega)
      simp [J_precentorref23_Agree_2, t0, t3, t4, q1, q2, q3]
      refine Tells.bind (ref_first hX ((o.ext x1).ext x) hl c) ?_
      rintro av g2 ⟨ga, x2⟩
      try simp
      refine Tells.bind (refagr_in hX (C := C) (cv := cv) (av := av) (i := i) (((o.ext x1).ext x).ext x2) hl ((oc.ext x).ext x2) hC ga.1 (Nat.le_trans (firF_len l c) hl) (by omega) (by simp [t0]) (by simp [t3]) (by simp [t4]) (by simp) (by simp)) ?_
      rintro ⟨ex, t2⟩ g3 ⟨x3, ⟨rfl, hag, f3⟩ | ⟨rfl, ⟨d, hd, hag⟩, h2⟩⟩
      · have e0 : t2 0 = v := (f3 0 (by decide)).trans (by simp [t0])
        have e3 : t2 3 = cv := (f3 3 (by decide)).trans (by simp [t3])
        have e4 : t2 4 = I i := (f3 4 (by decide)).trans (by simp [t4])
        simp [J_precentorref23_Agree_3, e4, w]
        refine Tells.ok (hQ2 _ _ (.inl ⟨rfl, n - 1, by omega, i + 1, by simp [e0], by simp [e3], by simp, by omega, (x.trans x2).trans x3, fun i' k c' d h1 h2 hc' hd => ?_⟩))
        by_cases q : i' = i
        · subst q
          rw [hci] at hc'; cases hc'
          exact hag d (List.mem_of_getElem? (i := k) (by rw [List.getElem?_take, if_pos (by omega)]; exact hd))
        · exact hall i' k c' d (by omega) h2 hc' hd
      · simp
        refine Tells.ok (hQ2 _ _ (.inr ⟨by simp, (x.trans x2).trans x3, .inr ⟨rfl, h2, ?_⟩⟩))
        cases hq : agreeR (rowsF l) with
        | false => rfl
        | true =>
          obtain ⟨k, hk⟩ := List.mem_iff_getElem?.1 hd
          have hki : k < i := by have := (List.getElem?_eq_some_iff.1 hk).1; simp at this; omega
          rw [List.getElem?_take, if_pos hki] at hk
          have := (spec.1 hq) i k c d hki hci hk
          rw [hag] at this; cases this
    · simp at hc
      exact Tells.ok (hQ2 _ _ (.inr ⟨by simp, x, .inl ⟨rfl, spec.2 fun i' k c d hk hc' hd => hall i' k c d (by have := (List.getElem?_eq_some_iff.1 hc').1; omega) hk hc' hd⟩⟩))
  · exact ⟨0, by simp, by simp, by simp, by omega, .refl, fun i' k c d hh => by omega⟩
  · rintro ⟨ex, t⟩ g ⟨x, ⟨rfl, ho⟩ | ⟨rfl, t2, ho⟩⟩
    · simp [J_precentorref23_Agree_0]
      exact Tells.ok (hQ _ _ ⟨by rw [ho], x1.trans x⟩)
    · simp
      exact Tells.ok (hQ _ _ ⟨by rw [ho]; exact t2, x1.trans x⟩)
end
end Go.Proofs.Ytochkdifpgelmaa
