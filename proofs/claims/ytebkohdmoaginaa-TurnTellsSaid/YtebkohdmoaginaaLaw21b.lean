/-
  Law TurnTells: the walk.
-/
import Derived.Test.YtebkohdmoaginaaTurn2
import Derived.Test.YtebkohdmoaginaaRise
import Derived.Test.YtebkohdmoaginaaKnown0
import Derived.Test.YtebkohdmoaginaaRow0
import Derived.Test.YtebkohdmoaginaaSprecentorlaw21
set_option linter.unusedVariables false
set_option linter.unusedSimpArgs false
namespace Go.Proofs.Ytebkohdmoaginaa
open Go.Ab

theorem RawInts.feed {h : Heap} {v : AVal} {xs : List Int} {bf : Nat} (o : RawInts h v xs) (ob : Ob h bf [v, I 0]) : Feed h bf 0 := ⟨v, 0, xs, ob, by omega, by omega, o.sl, o.small⟩

/-- Who is marked is one of those that said so. -/
def Rel (ks : List Int) (qs : List Bool) (S : List Int) : Prop := S.Pairwise (· < ·) ∧ (∀ x, x ∈ S → x ∈ ks) ∧ ∀ (i : Nat) k, ks[i]? = some k → (qs[i]? = some true ↔ k ∈ S)
theorem Rel.new (ks : List Int) : Rel ks (List.replicate ks.length false) [] := by
  refine ⟨by simp, by simp, fun i k hk => ?_⟩
  have := (List.getElem?_eq_some_iff.1 hk).1
  rw [List.getElem?_replicate, if_pos this]
  simp
theorem putL_mem {S : List Int} (hs : S.Pairwise (· < ·)) {x : Int} (hx : x ∉ S) : (∀ z, z ∈ putL S x ↔ z ∈ S ∨ z = x) ∧ (putL S x).Pairwise (· < ·) := by
  have htw : ∀ l : List Int, l.Pairwise (· < ·) → l.takeWhile (fun y => decide (y < x)) = l.filter (fun y => decide (y < x)) := by
    intro l hl
    induction l with
    | nil => rfl
    | cons a r ih =>
      rw [List.pairwise_cons] at hl
      by_cases q : a < x
      · simp [q, ih hl.2]
      · have : r.filter (fun y => decide (y < x)) = [] := List.filter_eq_nil_iff.2 fun y hy => by have := hl.1 y hy; simp; omega
        simp [q, this]
  have hp : putL S x = S.filter (fun y => decide (y < x)) ++ [x] ++ S.filter (fun y => decide (x < y)) := by
    unfold putL
    rw [if_neg (by simpa using hx), htw S hs]
  rw [hp]
  refine ⟨fun z => ?_, ?_⟩
  · simp only [List.mem_append, List.mem_filter, List.mem_singleton, decide_eq_true_eq]
    constructor
    · rintro ((h | h) | h)
      · exact .inl h.1
      · exact .inr h
      · exact .inl h.1
    · rintro (h | h)
      · have : z ≠ x := fun q => hx (by rw [← q]; exact h)
        by_cases q : z < x
        · exact .inl (.inl ⟨h, q⟩)
        · exact .inr ⟨h, by omega⟩
      · exact .inl (.inr h)
  · rw [List.pairwise_append, List.pairwise_append]
    refine ⟨⟨hs.filter _, by simp, fun a ha b hb => ?_⟩, hs.filter _, fun a ha b hb => ?_⟩
    · simp at ha hb; omega
    · simp at ha hb; omega
theorem nodup_at {ks : List Int} (h : ks.Pairwise (· < ·)) {i j : Nat} {x : Int} (hi : ks[i]? = some x) (hj : ks[j]? = some x) : i = j := by
  have a := List.getElem?_eq_some_iff.1 hi
  have b := List.getElem?_eq_some_iff.1 hj
  rcases Nat.lt_trichotomy i j with q | q | q
  · have := List.pairwise_iff_getElem.1 h i j a.1 b.1 q
    rw [a.2, b.2] at this; omega
  · exact q
  · have := List.pairwise_iff_getElem.1 h j i b.1 a.1 q
    rw [a.2, b.2] at this; omega
theorem Rel.quiet {ks : List Int} {qs : List Bool} {S : List Int} (r : Rel ks qs S) (hk : ks.Pairwise (· < ·)) (hl : qs.length = ks.length) {i : Nat} {x : Int} (hi : ks[i]? = some x) (hq : qs[i]? = some false) : x ∉ S ∧ Rel ks (qs.set i true) (putL S x) := by
  have hx : x ∉ S := fun q => by have := (r.2.2 i x hi).2 q; rw [hq] at this; cases this
  obtain ⟨m, s⟩ := putL_mem r.1 hx
  refine ⟨hx, s, fun z hz => ?_, fun j k hj => ?_⟩
  · rcases (m z).1 hz with q | q
    · exact r.2.1 z q
    · subst q; exact List.mem_of_getElem? hi
  · rw [m k]
    by_cases e : j = i
    · subst e
      rw [hi] at hj; cases hj
      have hlt := (List.getElem?_eq_some_iff.1 hq).1
      rw [List.getElem?_set_self hlt]
      simp
    · rw [List.getElem?_set_ne (Ne.symm e), r.2.2 j k hj]
      constructor
      · exact .inl
      · rintro (q | q)
        · exact q
        · subst q; exact absurd (nodup_at hk hj hi) e
theorem Rel.all {ks : List Int} {qs : List Bool} {S : List Int} (r : Rel ks qs S) (hk : ks.Pairwise (· < ·)) (hl : qs.length = ks.length) : qs.all id = decide (ks.length ≤ S.length) := by
  have hS : S = ks.filter (fun k => decide (k ∈ S)) := sorted_ext _ _ r.1 (hk.filter _) fun z => by
    simp only [List.mem_filter, decide_eq_true_eq]
    exact ⟨fun q => ⟨r.2.1 z q, q⟩, fun q => q.2⟩
  have hlen := congrArg List.length hS
  have hle := List.length_filter_le (fun k => decide (k ∈ S)) ks
  rw [Bool.eq_iff_iff, List.all_eq_true, decide_eq_true_eq]
  constructor
  · intro h
    have : ks.filter (fun k => decide (k ∈ S)) = ks := List.filter_eq_self.2 fun k hkm => by
      obtain ⟨j, hj, rfl⟩ := List.mem_iff_getElem.1 hkm
      have hq : qs[j]? = some qs[j] := List.getElem?_eq_getElem (by omega)
      have h1 : qs[j] = true := by simpa using h qs[j] (List.getElem_mem _)
      rw [h1] at hq
      simpa using (r.2.2 j ks[j] (List.getElem?_eq_getElem hj)).1 hq
    rw [this] at hlen
    omega
  · intro h q hq
    have h2 : (ks.filter (fun k => decide (k ∈ S))).length = ks.length := by omega
    have h3 := List.length_filter_eq_length_iff.1 h2
    obtain ⟨j, hj, rfl⟩ := List.mem_iff_getElem.1 hq
    have hkj : ks[j]? = some ks[j] := List.getElem?_eq_getElem (by omega)
    have := (r.2.2 j _ hkj).2 (by simpa using h3 ks[j] (List.getElem_mem _))
    rw [List.getElem?_eq_getElem hj] at this
    simpa using this
theorem Rel.kid {ks : List Int} {qs : List Bool} {S : List Int} (r : Rel ks qs S) (hl : qs.length = ks.length) (x : Int) : (x ∈ ks ∧ x ∉ S) ↔ ∃ i : Nat, ks[i]? = some x ∧ qs[i]? = some false := by
  constructor
  · rintro ⟨h1, h2⟩
    obtain ⟨j, hj, rfl⟩ := List.mem_iff_getElem.1 h1
    have hkj : ks[j]? = some ks[j] := List.getElem?_eq_getElem hj
    have hq : qs[j]? = some qs[j] := List.getElem?_eq_getElem (by omega)
    refine ⟨j, hkj, ?_⟩
    cases e : qs[j] with
    | false => rw [hq, e]
    | true => exact absurd ((r.2.2 j _ hkj).1 (by rw [hq, e])) h2
  · rintro ⟨i, h1, h2⟩
    refine ⟨List.mem_of_getElem? h1, fun q => ?_⟩
    have := (r.2.2 i x h1).2 q
    rw [h2] at this; cases this

/-- The two Turns side by side, and the feed. -/
structure Duo (h : Heap) (v : AVal) (ys : List Int) (b : Int) (bf bt br K : Nat) (bq : Nat) (kv : AVal) (qs : List Bool) (ep : Int) (st rd : Bool) (pv : AVal) (cs : List Ch) (sv : AVal) (S : List Int) (rv : AVal) : Prop where
  f : Feed h bf K
  p : TP h bt bq (b == 0) kv (kidsN b 0 ys) qs ep st rd pv cs
  r : RT h br v ys b ep st rd sv S rv cs
  rel : Rel (kidsN b 0 ys) qs S
  n1 : bf ≠ bt
  n2 : bf ≠ bq
  n3 : bf ≠ br
  n4 : bt ≠ br
  n5 : bq ≠ br

section
variable {X : XTab} {h : Heap} {v : AVal} {ys : List Int} {b : Int} {bf bt br K bq : Nat} {kv : AVal} {qs : List Bool} {ep : Int} {st rd : Bool} {pv : AVal} {cs : List Ch} {sv : AVal} {S : List Int} {rv : AVal}

theorem Duo.feed (d : Duo h v ys b bf bt br K bq kv qs ep st rd pv cs sv S rv) {h' : Heap} {K' : Nat} (x : Ext [bf] h h') (f : Feed h' bf K') : Duo h' v ys b bf bt br K' bq kv qs ep st rd pv cs sv S rv :=
  ⟨f, d.p.eo x (by simpa using d.n1.symm) (by simpa using d.n2.symm) (by simpa using .inl d.f.m), d.r.ext x (by simpa using d.n3.symm), d.rel, d.n1, d.n2, d.n3, d.n4, d.n5⟩
theorem Duo.mono (d : Duo h v ys b bf bt br K bq kv qs ep st rd pv cs sv S rv) {K' : Nat} (hk : K ≤ K') : Duo h v ys b bf bt br K' bq kv qs ep st rd pv cs sv S rv :=
  ⟨d.f.mono hk, d.p, d.r, d.rel, d.n1, d.n2, d.n3, d.n4, d.n5⟩

/-- The end of a round: all that is told is the same. -/
theorem tells5 (hX : OnlyKnown X) {t : T} (d : Duo h v ys b bf bt br K bq kv qs ep st rd pv cs sv S rv) (t7 : t 7 = .ptr bt 0) (t9 : t 9 = .ptr br 0) (t13 : t 13 = .bool true) {k : Nat → Kn (Ex × T)} {Q : Ex × T → Heap → Prop}
    (q : ∀ t' : T, (∀ j, j < 13 → t' j = t j) → Tells (fun m => k m .normal t' h) Q) : Tells (fun m => J_precentorlaw21_TurnTells_5 Try.prog (acallX Try.prog X m) m (k m) t h) Q := by
  unfold J_precentorlaw21_TurnTells_5
  have u4 := Try.underlying4
  simp [t13, t7]
  refine Tells.cbE (turn_Epoch hX d.p) ?_
  rintro _ h ⟨rfl, rfl⟩
  simp [t9, d.r.o.1, nckR]
  refine Tells.cbE (turn_Stopped hX d.p) ?_
  rintro _ h ⟨rfl, rfl⟩
  simp [t7, t9, d.r.o.1, nckR, u4]
  refine Tells.cbE (turn_Pending hX d.p) ?_
  rintro _ h ⟨rfl, rfl⟩
  simp [t9, d.r.o.1, nckR, d.r.c.len]
  refine q _ fun j hj => ?_
  repeat rw [upd_ne _ _ _ _ (by omega)]

end
end Go.Proofs.Ytebkohdmoaginaa
