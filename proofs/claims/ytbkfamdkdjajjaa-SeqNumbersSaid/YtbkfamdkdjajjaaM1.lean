/-
  Texts of a claim, merged: HandS, RefPut, RigS4, AttrD4, GetD, FlC4, ValP4, ValO4, TakD, PutW, InsD, SqG.
-/
import Derived.Test.YtbkfamdkdjajjaaM0
import Derived.Test.YtbkfamdkdjajjaaB2
import Derived.Test.YtbkfamdkdjajjaaSprecentorref9
import Derived.Test.YtbkfamdkdjajjaaSprecentorref1
import Derived.Test.YtbkfamdkdjajjaaFL2
import Derived.Test.YtbkfamdkdjajjaaSmath
import Derived.Test.YtbkfamdkdjajjaaB3
set_option linter.unusedVariables false
set_option linter.unusedSimpArgs false
/-! What precentorhand's Subs tells. -/
namespace Go.Proofs.Ytbkfamdkdjajjaa
open Go.Ab

/-- Rows of filters. -/
def flR : Rp (List Prd) := ⟨1, by decide, fun h cs fl => ∃ v, cs = [v] ∧ Sl prR h v fl, fun ⟨v, e, _⟩ => by rw [e]; rfl, fun ⟨v, e, o⟩ => by rw [e]; simp [o.one], fun ⟨v, e, o⟩ x => ⟨v, e, o.ext x⟩⟩

def Sx.lt (s s' : Sx) : Prop := s.c < s'.c ∨ (s.c = s'.c ∧ s.n < s'.n ∧ s.b = s'.b)
/-- Subscriptions that the feed tells; m: the brokers' greatest number. -/
structure FedS (m : Int) (l : List Sx) : Prop where
  f : ∀ s, s ∈ l → FedF s.fl ∧ 1 ≤ s.c ∧ s.c ≤ 6 ∧ 0 ≤ s.b ∧ s.b ≤ m ∧ 1 ≤ s.n ∧ s.n ≤ 6
  r : l.Pairwise Sx.lt
  t : ∀ (i : Nat) s s', l[i]? = some s → l[i + 3]? = some s' → s.c < s'.c
theorem FedS.nil (m : Int) : FedS m [] := ⟨by simp, by simp, by simp⟩

/-- While client c's are told: those of clients ahead, and its own. -/
structure FedQ (m : Int) (c b n : Int) (k : Nat) (l : List Sx) : Prop where
  s : FedS m l
  q : ∃ pre cur, l = pre ++ cur ∧ (∀ x, x ∈ pre → x.c < c) ∧ (∀ x, x ∈ cur → x.c = c ∧ x.b = b ∧ x.n ≤ n) ∧ cur.length = k
theorem FedQ.start {m c b : Int} {l : List Sx} (h : FedS m l) (hl : ∀ x, x ∈ l → x.c < c) : FedQ m c b 0 0 l := ⟨h, l, [], by simp, hl, by simp, rfl⟩
theorem FedQ.add {m c b n : Int} {k : Nat} {l : List Sx} (h : FedQ m c b n k l) (hk : k < 3) (hn : 0 ≤ n) (hc : 1 ≤ c ∧ c ≤ 6) (hb : 0 ≤ b ∧ b ≤ m) {n' : Int} (h1 : n < n') (h2 : n' ≤ 6) {fl : List Prd} (hf : FedF fl) : FedQ m c b n' (k + 1) (l ++ [⟨c, b, n', fl⟩]) := by
  obtain ⟨⟨s1, s2, s3⟩, pre, cur, rfl, q1, q2, q3⟩ := h
  refine ⟨⟨fun x hx => ?_, ?_, fun i x x' hx hx' => ?_⟩, pre, cur ++ [⟨c, b, n', fl⟩], by simp, q1, fun x hx => ?_, by simp; omega⟩
  · rcases List.mem_append.1 hx with q | q
    · exact s1 x q
    · simp at q; subst q; exact ⟨hf, hc.1, hc.2, hb.1, hb.2, by show 1 ≤ n'; omega, h2⟩
  · rw [List.pairwise_append]
    refine ⟨s2, by simp, fun x hx y hy => ?_⟩
    simp at hy
    subst hy
    rcases List.mem_append.1 hx with q | q
    · exact .inl (q1 x q)
    · obtain ⟨k1, k2, k3⟩ := q2 x q
      exact .inr ⟨k1, by show x.n < n'; omega, k2⟩
  · rcases Nat.lt_or_ge (i + 3) (pre ++ cur).length with q | q
    · rw [List.getElem?_append_left q] at hx'
      rw [List.getElem?_append_left (by omega)] at hx
      exact s3 i x x' hx hx'
    · rw [List.getElem?_append_right q] at hx'
      have e : i + 3 - (pre ++ cur).length = 0 := by
        cases h : i + 3 - (pre ++ cur).length with
        | zero => rfl
        | succ j => rw [h] at hx'; simp at hx'
      rw [e] at hx'
      simp at hx'
      subst hx'
      have hlen : (pre ++ cur).length = pre.length + cur.length := by simp
      rw [List.getElem?_append_left (by omega), List.getElem?_append_left (by omega)] at hx
      exact q1 x (List.mem_of_getElem? hx)
  · rcases List.mem_append.1 hx with q | q
    · obtain ⟨k1, k2, k3⟩ := q2 x q
      exact ⟨k1, k2, by omega⟩
    · simp at q; subst q; exact ⟨rfl, rfl, Int.le_refl _⟩
theorem FedQ.fin {m c b n : Int} {k : Nat} {l : List Sx} (h : FedQ m c b n k l) : FedS m l ∧ ∀ x, x ∈ l → x.c < c + 1 := by
  obtain ⟨s, pre, cur, rfl, q1, q2, q3⟩ := h
  refine ⟨s, fun x hx => ?_⟩
  rcases List.mem_append.1 hx with q | q
  · have := q1 x q; omega
  · have := (q2 x q).1; omega

section
variable {X : XTab}

theorem RowZ.freshR {h0 h1 h h' : Heap} {s v : AVal} {l : List Sx} {fl : List Prd} (rz : RowZ sxF h0.next h0 h s l) (rv : RowZ prF h1.next h1 h' v fl) (x : Ext [] h h') (hs : ∀ b, b ∈ s.blks → b < h1.next) (hl : h0.next ≤ h1.next) :
    Sl (prZ fun q => ¬ h'.isRoot s q ∧ h0.next ≤ q) h' v fl ∧ ∀ c, c ∈ v.blks → ¬ h'.isRoot s (h'.root c) ∧ h0.next ≤ h'.root c := by
  have key : ∀ q, h1.next ≤ q → ¬ h'.isRoot s q ∧ h0.next ≤ q := fun q hq => ⟨by
    rintro ⟨b, hb, rfl⟩
    have := root_le h' b
    have := hs b hb
    omega, by omega⟩
  exact ⟨rv.2.1.fam prF fun q _ z => key q z.2, fun c hc => key _ (rv.1 c hc).1⟩

theorem SubsH (hX : OnlyKnown X) {h : Heap} {bf k : Nat} (f : Feed h bf k) (hk : k < 2 ^ 57) {pv : AVal} {ps : List Int} (op : Sl intR h pv ps) (hp : ps.length ≤ 7) :
    Tells (fun q => acallX Try.prog X q F_precentorhand_Feed_Subs [.ptr bf 0, pv] h) fun r h' => ∃ l, RowZ sxF h.next h h' r l ∧ FedS ps.length l ∧ l.length ≤ 18 ∧ Ext [bf] h h' ∧ Feed h' bf (k + 1300) := by
  refine R_precentorhand_Feed_Subs _ _ (hX _ _ rfl) ?_
  refine Tells.prot fun Q' hQ => ?_
  unfold S_precentorhand_Feed_Subs
  try simp
  refine Tells.bind (FilterH hX f (by omega)) ?_
  rintro v1 h1 ⟨f1, rz1, ff1, x1, e1⟩
  try simp
  refine Tells.bind (FilterH hX e1 (by omega)) ?_
  rintro v2 h2 ⟨f2, rz2, ff2, x2, e2⟩
  have s1 : Sl prR h2 v1 f1 := rz1.sl.ext x2
  have s2 : Sl prR h2 v2 f2 := rz2.sl
  have s3 : Sl prR h2 .nils [] := Sl.nil
  try simp
  refine Tells.lit (r := flR) (xs := [f1, f2, []]) (css := [[v1], [v2], [.nils]]) (by rfl) ⟨⟨v1, rfl, s1⟩, ⟨v2, rfl, s2⟩, ⟨.nils, rfl, s3⟩, trivial⟩ (by rfl) (by rfl) (by simp [bslR, fillR, splice, s1.known, s1.cells, s2.known, s2.cells]) fun fv h3 gf x3 _ => ?_
  have e3 := e2.e x3
  have X3 : Ext [bf] h h3 := (x1.trans x2).quiet x3
  have ffs : ∀ (i : Nat) fl, [f1, f2, []][i]? = some fl → FedF fl := fun i fl hi => by
    match i, hi with
    | 0, hi => cases hi; exact ff1
    | 1, hi => cases hi; exact ff2
    | 2, hi => cases hi; exact FedF.nil
    | i + 3, hi => simp at hi
  have n3 := X3.next
  try simp
  refine Tells.bind (Tells.loop (fun n t g => ∃ (i : Nat) (l : List Sx), t 0 = .ptr bf 0 ∧ t 1 = pv ∧ t 6 = fv ∧ t 7 = I ((i : Int) + 1) ∧ i + n = 6 ∧ RowZ sxF h.next h3 g (t 5) l ∧ FedS ps.length l ∧ (∀ x, x ∈ l → x.c < (i : Int) + 1) ∧ l.length ≤ 3 * i ∧ Ext [bf] h3 g ∧ Feed g bf (k + 120 + 194 * i))
    (Q := fun p g => p.1 = .exit 0 ∧ ∃ l : List Sx, RowZ sxF h.next h3 g (p.2 5) l ∧ FedS ps.length l ∧ l.length ≤ 18 ∧ Ext [bf] h3 g ∧ Feed g bf (k + 1300)) ?_ 6 _ _ ⟨0, [], by simp, by simp, by simp, by simp, by omega, by simpa using RowZ.nil, FedS.nil _, by simp, by simp, .refl, by simpa using e3⟩) ?_
  · rintro n t g ⟨i, l, t0, t1, t6, t7, hi, rz, fs, lc, ll, xg, fg⟩
    refine Tells.prot fun Q2 hQ2 => ?_
    unfold L_precentorhand_Feed_Subs_1
    by_cases hc : i < 6
    · have hc' : (i : Int) + 1 ≤ 6 := by omega
      have og := (op.ext X3).ext xg
      have wp : IntKind.i64.wrap ((ps.length : Int) + 1) = ps.length + 1 := wrap_id (by omega) (by omega)
      have wi : IntKind.i64.wrap ((i : Int) + 1 + 1) = (i : Int) + 1 + 1 := wrap_id (by omega) (by omega)
      simp [t7, hc', J_precentorhand_Feed_Subs_2, t0, t1, og.len, wp]
      refine Tells.bind (Next hX ((ps.length : Int) + 1) ⟨by omega, by omega⟩ fg (by omega)) ?_
      rintro _ g1 ⟨home, rfl, hm0, hm1, _, y1, d1⟩
      have hm1 := hm1 (by omega)
      have rz1 := rz.extO y1 (by simpa using .inl fg.m)
      try simp [t0]
      refine Tells.bind (Next hX 4 ⟨by decide, by decide⟩ d1 (by omega)) ?_
      rintro _ g2 ⟨u, rfl, u0, u1, _, y2, d2⟩
      have u1 := u1 (by decide)
      obtain ⟨u, rfl⟩ : ∃ n : Nat, u = n := ⟨u.toNat, by omega⟩
      have rz2 := rz1.extO y2 (by simpa using .inl d1.m)
      have XG2 := (xg.trans y1).trans y2
      try simp
      refine Tells.bind (Tells.loop (fun n t g => ∃ (j : Nat) (num : Int) (l' : List Sx), t 0 = .ptr bf 0 ∧ t 1 = pv ∧ t 6 = fv ∧ t 7 = I ((i : Int) + 1) ∧ t 8 = I home ∧ t 9 = I num ∧ t 10 = I ((u : Int) - j) ∧ j + n = u ∧ 0 ≤ num ∧ num ≤ 2 * j ∧ RowZ sxF h.next h3 g (t 5) l' ∧ FedQ ps.length ((i : Int) + 1) home num j l' ∧ l'.length = l.length + j ∧ Ext [bf] h3 g ∧ Feed g bf (k + 120 + 194 * i + 2 + 64 * j))
        (Q := fun r g => r.1 = .exit 2 ∧ r.2 0 = .ptr bf 0 ∧ r.2 1 = pv ∧ r.2 6 = fv ∧ r.2 7 = I ((i : Int) + 1) ∧ ∃ l' : List Sx, RowZ sxF h.next h3 g (r.2 5) l' ∧ FedS ps.length l' ∧ (∀ x, x ∈ l' → x.c < (i : Int) + 1 + 1) ∧ l'.length ≤ l.length + 3 ∧ Ext [bf] h3 g ∧ Feed g bf (k + 120 + 194 * (i + 1))) ?_ u _ _ ⟨0, 0, l, by simp [t0], by simp [t1], by simp [t6], by simp [t7], by simp, by simp, by simp, by omega, by omega, by omega, by simpa using rz2, FedQ.start fs lc, by simp, XG2, by simpa using d2⟩) ?_
      · rintro n' t' g' ⟨j, num, l', a0, a1, a6, a7, a8, a9, a10, hj, hn0, hn1, rl, fq, hl', xg', fg'⟩
        refine Tells.prot fun Q3 hQ3 => ?_
        unfold L_precentorhand_Feed_Subs_4
        by_cases hc2 : j < u
        · have hc3 : (0 : Int) < (u : Int) - j := by omega
          have hc4 : (j : Int) < u := by omega
          have w1 : IntKind.i64.wrap (num + 1) = num + 1 := wrap_id (by omega) (by omega)
          simp [a10, hc2, hc3, hc4, J_precentorhand_Feed_Subs_5, a9, w1, a0]
          refine Tells.bind (Next hX 2 ⟨by decide, by decide⟩ fg' (by omega)) ?_
          rintro _ g3 ⟨r, rfl, r0, r1, _, y3, d3⟩
          have r1 := r1 (by decide)
          have w2 : IntKind.i64.wrap (num + 1 + r) = num + 1 + r := wrap_id (by omega) (by omega)
          have rl3 := rl.extO y3 (by simpa using .inl fg'.m)
          try simp [w2, a7, a8, a0]
          refine Tells.bind (FilterH hX d3 (by omega)) ?_
          rintro v4 g4 ⟨fl, rf, hfl, y4, d4⟩
          have rl4 := rl3.extO y4 (by simpa using .inl d3.m)
          have m4 := y4.next
          simp [bldR, fillR, splice, rf.2.1.known, rf.2.1.cells]
          refine Tells.newSt (ds := [I ((i : Int) + 1), I home, I (num + 1 + r), v4]) (by rfl) (by rfl) (by rfl) (by simp [rf.2.1.one]) fun g5 bs os y5 l5 => ?_
          have rl5 := rl4.e y5
          have d5 := d4.e y5
          have rf5 := rf.e y5
          have hne : bf ≠ bs := by have := d4.lt; omega
          have m5 := y5.next
          have ng' := xg'.next
          have m3 := y3.next
          have XG5 : Ext [bf] h3 g5 := ((xg'.trans y3).trans y4).quiet y5
          have sl3 : ∀ b, b ∈ (t' 5).blks → b < g3.next := fun b hb => (rl3.1 b hb).2.2
          have w3 : IntKind.i64.wrap ((u : Int) - j - 1) = (u : Int) - j - 1 := wrap_id (by omega) (by omega)
          -- what is appended
          have last : ∀ (t2 : T) (g6 : Heap) (v : AVal) (fl : List Prd) (K : Nat), K ≤ k + 120 + 194 * i + 2 + 64 * (j + 1) → t2 0 = .ptr bf 0 → t2 1 = pv → t2 5 = t' 5 → t2 6 = fv → t2 7 = I ((i : Int) + 1) → t2 8 = I home → t2 9 = I (num + 1 + r) → t2 10 = I ((u : Int) - j) → t2 11 = .ptr bs 0 → Ob g6 bs [I ((i : Int) + 1), I home, I (num + 1 + r), v] → FedF fl →
              RowZ sxF h.next h3 g6 (t' 5) l' → Sl (prZ fun q => ¬ g6.isRoot (t' 5) q ∧ h.next ≤ q) g6 v fl → (∀ c, c ∈ v.blks → ¬ g6.isRoot (t' 5) (g6.root c) ∧ h.next ≤ g6.root c) → Ext [bf] h3 g6 → Feed g6 bf K →
              Tells (fun m => J_precentorhand_Feed_Subs_7 Try.prog (acallX Try.prog X m) m (blkK 3 (sqK (J_precentorhand_Feed_Subs_6 Try.prog (acallX Try.prog X m) m okK) okK)) t2 g6) Q3 := by
            intro t2 g6 v fl K hK b0 b1 b5 b6 b7 b8 b9 b10 b11 o6 hfl r6 sv nv X6 f6
            simp [J_precentorhand_Feed_Subs_7, b5, b11, o6.1]
            refine Tells.appZ r6 (by rfl) (by rfl) (x := (⟨(i : Int) + 1, home, num + 1 + r, fl⟩ : Sx)) ⟨v, rfl, sv, nv⟩ (by rfl) (by rfl) (by omega) (by decide) X6.next fun s7 g7 r7 y7 z7 => ?_
            simp [J_precentorhand_Feed_Subs_6, b10, w3]
            have f7 := f6.ext y7 (fun q => by have := (r6.2.1.blk _ q).1; rw [f6.m] at this; cases this)
            exact Tells.ok (hQ3 _ _ (.inl ⟨rfl, n' - 1, by omega, j + 1, num + 1 + r, _, by simp [b0], by simp [b1], by simp [b6], by simp [b7], by simp [b8], by simp [b9], by simp; omega, by omega, by omega, by omega, by simpa using r7, fq.add (by omega) hn0 ⟨by omega, by omega⟩ ⟨hm0, by omega⟩ (by omega) (by omega) hfl, by simp; omega, z7 [bf] X6, f7.mono hK⟩))
          try simp [a0]
          refine Tells.bind (Next hX 6 ⟨by decide, by decide⟩ d5 (by omega)) ?_
          rintro _ g6 ⟨z, rfl, z0, z1, _, y6, d6⟩
          have m6 := y6.next
          have os6 := os.ext y6 (by simpa using hne.symm)
          have rl6 := rl5.extO y6 (by simpa using .inl d5.m)
          have rf6 := rf5.extO y6 (by simpa using .inl d5.m)
          have XG6 := XG5.trans y6
          have key : ∀ (gz : Heap) (v : AVal) (fl : List Prd) (hz : Heap), RowZ sxF h.next h3 gz (t' 5) l' → RowZ prF hz.next hz gz v fl → g3.next ≤ hz.next → h.next ≤ hz.next → Sl (prZ fun q => ¬ gz.isRoot (t' 5) q ∧ h.next ≤ q) gz v fl ∧ ∀ c, c ∈ v.blks → ¬ gz.isRoot (t' 5) (gz.root c) ∧ h.next ≤ gz.root c := fun gz v fl hz _ rv h1 h2 => by
            have key : ∀ q, hz.next ≤ q → ¬ gz.isRoot (t' 5) q ∧ h.next ≤ q := fun q hq => ⟨by
              rintro ⟨b, hb, rfl⟩
              have := root_le gz b
              have := sl3 b hb
              omega, by omega⟩
            exact ⟨rv.2.1.fam prF fun q _ z => key q z.2, fun c hc => key _ (rv.1 c hc).1⟩
          by_cases hz : z < 3
          · obtain ⟨z, rfl⟩ : ∃ n : Nat, z = n := ⟨z.toNat, by omega⟩
            obtain ⟨fz, hfz⟩ : ∃ fz, [f1, f2, []][z]? = some fz := ⟨_, List.getElem?_eq_getElem (by simp; omega)⟩
            have gf6 := gf.1.ext XG6
            obtain ⟨b, q, B, c, q1, q2, vz, rfl, oz⟩ := gf6.at (n := 1) rfl (i := (z : Int)) (by omega) (by simpa using hfz)
            have hff := ffs z fz hfz
            have q4 := q2.cell0 (by simp)
            simp at q4
            simp [hz, a6, q1, q2.get, q4]
            refine Tells.bind (FilterC hX oz (by have := hff.1; omega) (fun p hp => by have := (hff.2.1 p hp).set_le; omega)) ?_
            rintro v7 g7 ⟨r7, y7⟩
            have os7 := os6.e y7
            have rl7 := rl6.e y7
            have d7 := d6.e y7
            try simp
            refine Tells.st1 os7 r7.2.1.cells r7.2.1.one (by simp) fun g8 os8 y8 => ?_
            have os8 : Ob g8 bs [I ((i : Int) + 1), I home, I (num + 1 + r), v7] := by simpa using os8
            have rl8 := rl7.extO y8 (by simpa using .inl os7.2.1)
            have r8 := r7.extO y8 (by simpa using .inl os7.2.1)
            have d8 := d7.ext y8 (by simpa using hne)
            have X8 : Ext [bf] h3 g8 := (XG6.quiet y7).then y8 fun z hz => .inr (by simp at hz; omega)
            obtain ⟨k1, k2⟩ := key g8 v7 fz g6 rl8 r8 (by omega) (by omega)
            exact last _ g8 v7 fz _ (by omega) (by simp [a0]) (by simp [a1]) (by simp) (by simp [a6]) (by simp [a7]) (by simp [a8]) (by simp) (by simp [a10]) (by simp) os8 hff rl8 k1 k2 X8 d8
          · simp [hz]
            obtain ⟨k1, k2⟩ := key g6 v4 fl g3 rl6 rf6 (Nat.le_refl _) (by omega)
            exact last _ g6 v4 fl _ (by omega) (by simp [a0]) (by simp [a1]) (by simp) (by simp [a6]) (by simp [a7]) (by simp [a8]) (by simp) (by simp [a10]) (by simp) os6 hfl rl6 k1 k2 XG6 d6
        · have hc3 : ¬ (0 : Int) < (u : Int) - j := by omega
          have hc4 : ¬ (j : Int) < u := by omega
          obtain ⟨z1, z2⟩ := fq.fin
          simp [a10, hc2, hc3, hc4]
          exact Tells.ok (hQ3 _ _ (.inr ⟨by simp, rfl, by simp [a0], by simp [a1], by simp [a6], by simp [a7], l', by simpa using rl, z1, z2, by omega, xg', fg'.mono (by omega)⟩))
      · rintro ⟨ex, t'⟩ g' ⟨rfl, a0, a1, a6, a7, l', rl, z1, z2, hl', xg', fg'⟩
        have a7 : t' 7 = I ((i : Int) + 1) := a7
        have a0 : t' 0 = .ptr bf 0 := a0
        have a1 : t' 1 = pv := a1
        have a6 : t' 6 = fv := a6
        simp [J_precentorhand_Feed_Subs_3, a7, wi]
        exact Tells.ok (hQ2 _ _ (.inl ⟨rfl, n - 1, by omega, i + 1, l', by simp [a0], by simp [a1], by simp [a6], by simp, by omega, by simpa using rl, z1, by intro x hx; have := z2 x hx; omega, by omega, xg', fg'⟩))
    · have hc' : ¬ (i : Int) + 1 ≤ 6 := by omega
      simp [t7, hc']
      exact Tells.ok (hQ2 _ _ (.inr ⟨by simp, rfl, l, by simpa using rz, fs, by omega, xg, fg.mono (by omega)⟩))
  · rintro ⟨ex, t⟩ g ⟨rfl, l, rz, fs, hl, xg, fg⟩
    simp [J_precentorhand_Feed_Subs_0]
    exact Tells.ok (hQ _ _ ⟨l, by simpa using rz.back n3, fs, hl, X3.trans xg, fg⟩)
end
end Go.Proofs.Ytbkfamdkdjajjaa

/-! What precentorref9's In and Put tell. -/
namespace Go.Proofs.Ytbkfamdkdjajjaa
open Go.Ab

section
variable {X : XTab}

def putL (xs : List Int) (p : Int) : List Int := if xs.any (· == p) = true then xs else xs.takeWhile (fun x => decide (x < p)) ++ [p] ++ xs.filter (fun x => decide (p < x))

theorem ref_In (hX : OnlyKnown X) {h : Heap} {v : AVal} {xs : List Int} (o : Sl intR h v xs) (hl : xs.length < 2 ^ 62) (a : Int) :
    Tells (fun q => acallX Try.prog X q F_precentorref9_In [v, I a] h) fun r h' => r = .bool (xs.any (· == a)) ∧ h' = h := by
  refine R_precentorref9_In _ _ (hX _ _ rfl) ?_
  refine Tells.prot fun Q' hQ => ?_
  unfold S_precentorref9_In
  simp
  refine Tells.bind (Tells.loop (fun n t g => ∃ i : Nat, t 0 = v ∧ t 1 = I a ∧ t 5 = I i ∧ i + n = xs.length ∧ g = h ∧ (xs.any (· == a)) = ((xs.drop i).any (· == a)))
    (Q := fun p g => g = h ∧ ((p.1 = .exit 0 ∧ (xs.any (· == a)) = false) ∨ (p.1 = .ret ∧ p.2 4 = .bool true ∧ (xs.any (· == a)) = true))) ?_ xs.length _ _ ?_) ?_
  · rintro n t g ⟨i, t0, t1, t5, hi, rfl, ha⟩
    refine Tells.prot fun Q2 hQ2 => ?_
    unfold L_precentorref9_In_1
    simp [t5, t0, o.len]
    refine Tells.cb (fun hc => ?_) (fun hc => ?_)
    · simp at hc
      obtain ⟨x, hdi⟩ : ∃ d, xs[i]? = some d := ⟨_, List.getElem?_eq_getElem hc⟩
      have hd : xs.drop i = x :: xs.drop (i + 1) := by
        rw [List.drop_eq_getElem_cons hc]; congr 1; exact (List.getElem?_eq_some_iff.1 hdi).2
      obtain ⟨b, pp, B, q1, q2, q3⟩ := o.atI hdi
      have w : IntKind.i64.wrap ((i : Int) + 1) = i + 1 := wrap_id (by omega) (by omega)
      rw [hd, List.any_cons] at ha
      by_cases e : x = a
      · subst e
        simp [J_precentorref9_In_2, t0, t5, t1, q1, q2, q3]
        exact Tells.ok (hQ2 _ _ (.inr ⟨by simp, rfl, .inr ⟨rfl, by simp, by rw [ha]; simp⟩⟩))
      · simp [J_precentorref9_In_2, t0, t5, t1, q1, q2, q3, e, beq_eq_false_iff_ne.2 e, J_precentorref9_In_3, w]
        exact Tells.ok (hQ2 _ _ (.inl ⟨rfl, n - 1, by omega, i + 1, by simp [t0], by simp [t1], by simp, by omega, rfl, by rw [ha, beq_eq_false_iff_ne.2 e]; rfl⟩))
    · simp at hc
      exact Tells.ok (hQ2 _ _ (.inr ⟨by simp, rfl, .inl ⟨rfl, by rw [ha, List.drop_eq_nil_of_le (by omega)]; rfl⟩⟩))
  · exact ⟨0, by simp, by simp, by simp, by omega, rfl, rfl⟩
  · rintro ⟨ex, t⟩ g ⟨rfl, ⟨rfl, q⟩ | ⟨rfl, q, q'⟩⟩
    · simp [J_precentorref9_In_0]
      exact Tells.ok (hQ _ _ ⟨by rw [q], rfl⟩)
    · simp only at q
      simp [q]
      exact Tells.ok (hQ _ _ ⟨by rw [q'], rfl⟩)

theorem tw_at {xs : List Int} {i : Nat} {x : Int} (h : xs[i]? = some x) (f : Int → Bool) : (xs.drop i).takeWhile f = if f x = true then x :: (xs.drop (i + 1)).takeWhile f else [] := by
  have hlt := (List.getElem?_eq_some_iff.1 h).1
  rw [List.drop_eq_getElem_cons hlt, (List.getElem?_eq_some_iff.1 h).2, List.takeWhile_cons]

theorem ref_Put (hX : OnlyKnown X) {h : Heap} {v : AVal} {xs : List Int} (o : Sl intR h v xs) (hl : xs.length < 2 ^ 30) (p : Int) :
    Tells (fun q => acallX Try.prog X q F_precentorref9_Put [v, I p] h) fun a h' => Sl intR h' a (putL xs p) ∧ Ext [] h h' := by
  refine R_precentorref9_Put _ _ (hX _ _ rfl) ?_
  refine Tells.prot fun Q' hQ => ?_
  unfold S_precentorref9_Put
  simp
  refine Tells.bind (ref_In hX o (by omega) p) ?_
  rintro _ h ⟨rfl, rfl⟩
  cases hin : xs.any (· == p) with
  | true =>
    simp
    refine Tells.ok (hQ _ _ ⟨?_, .refl⟩)
    unfold putL
    rw [if_pos hin]
    exact o
  | false =>
    have hp : putL xs p = xs.takeWhile (fun x => decide (x < p)) ++ [p] ++ xs.filter (fun x => decide (p < x)) := by
      unfold putL
      rw [if_neg (by rw [hin]; simp)]
    simp [J_precentorref9_Put_0]
    refine Tells.bind (Tells.loop (fun n t g => ∃ i : Nat, t 0 = v ∧ t 1 = I p ∧ t 6 = I i ∧ i + n = xs.length ∧ Gl intR h g (t 5) (xs.take i) ∧ Ext [] h g ∧ xs.takeWhile (fun x => decide (x < p)) = xs.take i ++ (xs.drop i).takeWhile (fun x => decide (x < p)))
      (Q := fun r g => r.1 = .exit 0 ∧ r.2 0 = v ∧ r.2 1 = I p ∧ Gl intR h g (r.2 5) (xs.takeWhile (fun x => decide (x < p))) ∧ Ext [] h g) ?_ xs.length _ _ ?_) ?_
    · rintro n t g ⟨i, t0, t1, t6, hi, go, x, htw⟩
      refine Tells.prot fun Q2 hQ2 => ?_
      have og := o.ext x
      unfold L_precentorref9_Put_6
      simp [t6, t0, og.len]
      by_cases hc : i < xs.length
      · obtain ⟨y, hdi⟩ : ∃ d, xs[i]? = some d := ⟨_, List.getElem?_eq_getElem hc⟩
        obtain ⟨b, pp, B, q1, q2, q3⟩ := og.atI hdi
        have w : IntKind.i64.wrap ((i : Int) + 1) = i + 1 := wrap_id (by omega) (by omega)
        rw [tw_at hdi] at htw
        by_cases hy : y < p
        · rw [if_pos (by simpa using hy)] at htw
          simp [hc, t0, t6, q1, q2, q3, t1, hy, J_precentorref9_Put_7]
          refine Tells.app1 go (by rfl) (by rfl) (show intR.rep g [I y] y from rfl) (by rfl) (by rfl) (by simp; omega) (by decide) x.next fun s6 h6 g6 x6 y6 z6 => ?_
          simp [J_precentorref9_Put_8, t6, w]
          have htk : xs.take (i + 1) = xs.take i ++ [y] := by rw [List.take_add_one, hdi]; rfl
          exact Tells.ok (hQ2 _ _ (.inl ⟨rfl, n - 1, by omega, i + 1, by simp [t0], by simp [t1], by simp, by omega, by rw [htk]; simpa using g6, y6 [] x, by rw [htw, htk]; simp⟩))
        · rw [if_neg (by simpa using hy)] at htw
          simp [hc, t0, t6, q1, q2, q3, t1, hy]
          exact Tells.ok (hQ2 _ _ (.inr ⟨by simp, rfl, by simp [t0], by simp [t1], by rw [htw]; simpa using go, x⟩))
      · simp [hc]
        rw [List.drop_eq_nil_of_le (by omega)] at htw
        exact Tells.ok (hQ2 _ _ (.inr ⟨by simp, rfl, by simp [t0], by simp [t1], by rw [htw]; simpa using go, x⟩))
    · exact ⟨0, by simp, by simp, by simp, by omega, by simpa using Gl.nil, .refl, by simp⟩
    · rintro ⟨ex, t⟩ g ⟨rfl, t0, t1, go, x⟩
      simp only at t0 t1 go
      have hle : (xs.takeWhile (fun x => decide (x < p))).length ≤ xs.length := (List.takeWhile_prefix _).length_le
      generalize xs.takeWhile (fun x => decide (x < p)) = ys at go hp hle
      simp [J_precentorref9_Put_1, t1]
      refine Tells.app1 go (by rfl) (by rfl) (show intR.rep g [I p] p from rfl) (by rfl) (by rfl) (by omega) (by decide) x.next fun s6 h6 g6 x6 y6 z6 => ?_
      have xg6 := y6 [] x
      try simp
      refine Tells.bind (Tells.loop (fun n t g => ∃ i : Nat, t 0 = v ∧ t 1 = I p ∧ t 7 = I i ∧ i + n = xs.length ∧ Gl intR h g (t 5) (ys ++ [p] ++ (xs.take i).filter (fun x => decide (p < x))) ∧ Ext [] h g)
        (Q := fun r g => r.1 = .exit 2 ∧ Gl intR h g (r.2 5) (ys ++ [p] ++ xs.filter (fun x => decide (p < x))) ∧ Ext [] h g) ?_ xs.length _ _ ?_) ?_
      · rintro n t g ⟨i, t0, t1, t7, hi, go, x⟩
        refine Tells.prot fun Q2 hQ2 => ?_
        have og := o.ext x
        unfold L_precentorref9_Put_3
        simp [t7, t0, og.len]
        refine Tells.cb (fun hc => ?_) (fun hc => ?_)
        · simp at hc
          obtain ⟨y, hdi⟩ : ∃ d, xs[i]? = some d := ⟨_, List.getElem?_eq_getElem hc⟩
          obtain ⟨b, pp, B, q1, q2, q3⟩ := og.atI hdi
          have w : IntKind.i64.wrap ((i : Int) + 1) = i + 1 := wrap_id (by omega) (by omega)
          have hfl : ((xs.take i).filter (fun x => decide (p < x))).length ≤ i := Nat.le_trans (List.length_filter_le _ _) (by simp; omega)
          have htk : (xs.take (i + 1)).filter (fun x => decide (p < x)) = (xs.take i).filter (fun x => decide (p < x)) ++ if p < y then [y] else [] := by
            rw [List.take_add_one, hdi]; simp [List.filter_append, List.filter_cons]
          by_cases hy : p < y
          · rw [if_pos hy] at htk
            simp [J_precentorref9_Put_4, t0, t7, q1, q2, q3, t1, hy]
            refine Tells.app1 go (by rfl) (by rfl) (show intR.rep g [I y] y from rfl) (by rfl) (by rfl) (by simp only [List.length_append, List.length_singleton]; omega) (by decide) x.next fun s8 h8 g8 x8 y8 z8 => ?_
            simp [J_precentorref9_Put_5, t7, w]
            exact Tells.ok (hQ2 _ _ (.inl ⟨rfl, n - 1, by omega, i + 1, by simp [t0], by simp [t1], by simp, by omega, by rw [htk]; simpa using g8, y8 [] x⟩))
          · rw [if_neg hy] at htk
            simp [J_precentorref9_Put_4, t0, t7, q1, q2, q3, t1, hy, J_precentorref9_Put_5, w]
            exact Tells.ok (hQ2 _ _ (.inl ⟨rfl, n - 1, by omega, i + 1, by simp [t0], by simp [t1], by simp, by omega, by rw [htk]; simpa using go, x⟩))
        · simp at hc
          rw [List.take_of_length_le (by omega)] at go
          exact Tells.ok (hQ2 _ _ (.inr ⟨by simp, rfl, by simpa using go, x⟩))
      · exact ⟨0, by simp [t0], by simp [t1], by simp, by omega, by simpa using g6, xg6⟩
      · rintro ⟨ex, t⟩ g ⟨rfl, go, x⟩
        simp only at go
        simp [J_precentorref9_Put_2]
        exact Tells.ok (hQ _ _ ⟨by rw [hp]; exact go.1, x⟩)

end
end Go.Proofs.Ytbkfamdkdjajjaa

/-! precentorref9.RightSubs, Of (printed by mk14.py). -/
namespace Go.Proofs.Ytbkfamdkdjajjaa
open Go.Ab

section
variable {X : XTab}

def okS (l : List Sx) (i : Nat) : Bool := match l[i]? with
  | none => true
  | some s => mayB s && ((if i = 0 then true else match l[i - 1]? with
      | some p => (decide (p.c < s.c) || (p.c == s.c && decide (p.n < s.n))) && !(p.c == s.c && p.b != s.b)
      | none => true) && (if i < 3 then true else match l[i - 3]? with
      | some q => q.c != s.c
      | none => true))

def rightS (l : List Sx) : Bool := (List.range l.length).all (okS l)

theorem rightS_true {l : List Sx} (h : ∀ j, j < l.length → okS l j = true) : rightS l = true := by
  unfold rightS
  rw [List.all_eq_true]
  intro j hj
  exact h j (List.mem_range.1 hj)

theorem rightS_false {l : List Sx} {i : Nat} (hi : i < l.length) (h : okS l i = false) : rightS l = false := by
  unfold rightS
  rw [List.all_eq_false]
  exact ⟨i, List.mem_range.2 hi, by simp [h]⟩

theorem okS_one {l : List Sx} {s : Sx} (hs : l[0]? = some s) : okS l 0 = mayB s ∧ True := ⟨by simp [okS, hs], trivial⟩
theorem okS_may {l : List Sx} {i : Nat} {s : Sx} (hs : l[i]? = some s) (h : mayB s = false) : okS l i = false := by simp [okS, hs, h]

theorem ref_between (hX : OnlyKnown X) (n a b : Int) (h : Heap) : Tells (fun q => acallX Try.prog X q F_precentorref9_between [I n, I a, I b] h) fun r h' => r = .bool (decide (a ≤ n) && decide (n ≤ b)) ∧ h' = h := by
  refine R_precentorref9_between _ _ _ (hX _ _ rfl) ?_
  unfold S_precentorref9_between
  by_cases c1 : a ≤ n
  · simp [c1]
    exact Tells.ok ⟨rfl, rfl⟩
  · simp [c1]
    exact Tells.ok ⟨rfl, rfl⟩

theorem ref_RightSubs (hX : OnlyKnown X) {h : Heap} {v : AVal} {l : List Sx} (o : Sl sxR h v l) (hl : l.length ≤ 1000) (sz : ∀ s, s ∈ l → SzR s) : Tells (fun q => acallX Try.prog X q F_precentorref9_RightSubs [v] h) fun r h' => r = .bool (rightS l) ∧ Ext [] h h' := by
  refine R_precentorref9_RightSubs _ (hX _ _ rfl) ?_
  refine Tells.prot fun Q' hQ => ?_
  unfold S_precentorref9_RightSubs
  try simp
  refine Tells.bind (Tells.loop (fun k t g => ∃ i : Nat, t 0 = v ∧ t 3 = I i ∧ i + k = l.length ∧ (∀ j, j < i → okS l j = true) ∧ Ext [] h g)
    (Q := fun r g => ((r.1 = .exit 0 ∧ rightS l = true) ∨ (r.1 = .ret ∧ r.2 2 = .bool false ∧ rightS l = false)) ∧ Ext [] h g) ?_ l.length _ _ ⟨0, by simp, by simp, by omega, by omega, .refl⟩) ?_
  · rintro k t g ⟨i, t0, t3, hi, hok, xg⟩
    refine Tells.prot fun Q2 hQ2 => ?_
    unfold L_precentorref9_RightSubs_1
    have og := o.ext xg
    simp [t0, t3, og.len]
    refine Tells.cb (fun hc => ?_) (fun hc => ?_)
    · simp at hc
      obtain ⟨s, hs⟩ : ∃ s, l[i]? = some s := ⟨_, List.getElem?_eq_getElem hc⟩
      obtain ⟨b1, p1, B1, c1, q1, q2, fv, rfl, of_, _⟩ := og.at (n := 4) rfl (i := (i : Int)) (by omega) (by simpa using hs)
      have w : IntKind.i64.wrap ((i : Int) + 1) = i + 1 := wrap_id (by omega) (by omega)
      have q4 := q2.lda (n := 4) rfl
      have bad : okS l i = false → ∀ (t2 : T) (g2 : Heap), t2 2 = .bool false → Ext [] h g2 → Q2 (.ret, t2) g2 := fun ho t2 g2 a2 X2 => hQ2 _ _ (.inr ⟨by simp, .inr ⟨rfl, a2, rightS_false hc ho⟩, X2⟩)
      simp [J_precentorref9_RightSubs_2, t0, t3, q1, q4]
      refine Tells.newSt (ds := sxC s fv) (by rfl) (by rfl) (by rfl) (by simp [sxC, of_.one]) fun g1 bs os x1 l1 => ?_
      have X1 := xg.trans x1
      simp [os.1, sxC]
      refine Tells.bind (ref_between hX s.c 1 6 g1) ?_
      rintro _ g2 ⟨rfl, rfl⟩
      cases e1 : (decide (1 ≤ s.c) && decide (s.c ≤ 6)) with
      | false =>
        have hm : mayB s = false := by unfold mayB; rw [← Bool.and_assoc, e1]; rfl
        try simp
        exact Tells.ok (bad (okS_may hs hm) _ _ (by simp) X1)
      | true =>
        simp [os.1, sxC]
        refine Tells.bind (ref_between hX s.b 0 7 g2) ?_
        rintro _ g2 ⟨rfl, rfl⟩
        cases e2 : (decide (0 ≤ s.b) && decide (s.b ≤ 7)) with
        | false =>
          have hm : mayB s = false := by
            unfold mayB
            simp only [Bool.and_eq_true, Bool.and_eq_false_iff] at e1 e2
            rcases e2 with q | q <;> simp [q]
          try simp
          exact Tells.ok (bad (okS_may hs hm) _ _ (by simp) X1)
        | true =>
          simp [os.1, sxC]
          refine Tells.bind (ref_between hX s.n 1 4611686018427387904 g2) ?_
          rintro _ g2 ⟨rfl, rfl⟩
          cases e3 : (decide (1 ≤ s.n) && decide (s.n ≤ 4611686018427387904)) with
          | false =>
            have hm : mayB s = false := by
              unfold mayB
              simp only [Bool.and_eq_true, Bool.and_eq_false_iff] at e1 e2 e3
              rcases e3 with q | q <;> simp [q]
            try simp
            exact Tells.ok (bad (okS_may hs hm) _ _ (by simp) X1)
          | true =>
            simp [os.1, sxC]
            refine Tells.bind (ref_RightFilter hX (of_.ext x1) (sz s (List.mem_of_getElem? hs)).1 (sz s (List.mem_of_getElem? hs)).2) ?_
            rintro _ g3 ⟨rfl, x3⟩
            have X3 := X1.trans x3
            have os3 := os.e x3
            have og3 := (og.ext x1).ext x3
            simp only [Bool.and_eq_true, decide_eq_true_eq] at e1 e2 e3
            cases e4 : rightFl s.fl with
            | false =>
              have hm : mayB s = false := by simp [mayB, e4]
              try simp
              exact Tells.ok (bad (okS_may hs hm) _ _ (by simp) X3)
            | true =>
              have hm : mayB s = true := by simp [mayB, e1, e2, e3, e4]
              have go : okS l i = true → ∀ t2 : T, t2 0 = v → t2 3 = I ((i : Int) + 1) → Q2 (.normal, t2) g3 := fun ho t2 a0 a3 => hQ2 _ _ (.inl ⟨rfl, k - 1, by omega, i + 1, a0, a3, by omega, fun j hj => by
                by_cases q : j = i
                · subst q; exact ho
                · exact hok j (by omega), X3⟩)
              by_cases h0 : i = 0
              · subst h0
                simp [t3, J_precentorref9_RightSubs_4, J_precentorref9_RightSubs_5, J_precentorref9_RightSubs_3]
                exact Tells.ok (go (by rw [(okS_one hs).1, hm]) _ (by simp [t0]) (by simp; rfl))
              · have h0' : (0 : Int) < i := by omega
                have h0'' : 0 < i := by omega
                obtain ⟨p, hp⟩ : ∃ p, l[i - 1]? = some p := ⟨_, List.getElem?_eq_getElem (by omega)⟩
                have w1 : IntKind.i64.wrap ((i : Int) - 1) = ((i - 1 : Nat) : Int) := by rw [wrap_id (by omega) (by omega)]; omega
                obtain ⟨b2, p2, B2, c2, r1, r2, fw, rfl, ow, _⟩ := og3.at (n := 4) rfl (i := ((i - 1 : Nat) : Int)) (by omega) (by simpa using hp)
                have r40 := r2.cell0 (by simp [sxC])
                have r41 := r2.cell (k := 1) (by simp [sxC])
                have r42 := r2.cell (k := 2) (by simp [sxC])
                simp [sxC] at r40 r41 r42
                have n0 : ¬ i = 0 := h0
                -- the last test: three ahead
                have last : ((decide (p.c < s.c) || (p.c == s.c && decide (p.n < s.n))) && !(p.c == s.c && p.b != s.b)) = true → ∀ (t2 : T), t2 0 = v → t2 3 = I i → t2 4 = .ptr bs 0 →
                    ((¬ (p.c = s.c ∧ p.b ≠ s.b)) → Tells (fun m => J_precentorref9_RightSubs_5 Try.prog (acallX Try.prog X m) m (blkK 1 (sqK (J_precentorref9_RightSubs_3 Try.prog (acallX Try.prog X m) m okK) okK)) t2 g3) Q2) := by
                  intro hcnd t2 a0 a3 a4 hpb
                  by_cases h3 : i < 3
                  · have h3' : ¬ (3 : Int) ≤ i := by omega
                    have h3'' : ¬ 3 ≤ i := by omega
                    have ok3 : okS l i = true := by
                      simp only [okS, hs, hm, n0, if_false, hp, hcnd, Bool.true_and, h3, if_true]
                    by_cases c1 : p.c = s.c
                    · have c2 : p.b = s.b := by
                        by_cases q : p.b = s.b
                        · exact q
                        · exact absurd ⟨c1, q⟩ hpb
                      simp [J_precentorref9_RightSubs_5, a0, a3, a4, h0', h0'', w1, r1, r2.get, r40, r41, os3.1, sxC, c1, c2, h3', h3'', J_precentorref9_RightSubs_3, w]
                      exact Tells.ok (go ok3 _ (by simp [a0]) (by simp))
                    · simp [J_precentorref9_RightSubs_5, a0, a3, a4, h0', h0'', w1, r1, r2.get, r40, r41, os3.1, sxC, beq_eq_false_iff_ne.2 c1, h3', h3'', J_precentorref9_RightSubs_3, w]
                      exact Tells.ok (go ok3 _ (by simp [a0]) (by simp))
                  · have h3' : (3 : Int) ≤ i := by omega
                    have h3'' : 3 ≤ i := by omega
                    obtain ⟨q, hq⟩ : ∃ q, l[i - 3]? = some q := ⟨_, List.getElem?_eq_getElem (by omega)⟩
                    have ok3 : okS l i = (q.c != s.c) := by
                      simp only [okS, hs, hm, n0, if_false, hp, hcnd, Bool.true_and, h3, hq]
                    have w3 : IntKind.i64.wrap ((i : Int) - 3) = ((i - 3 : Nat) : Int) := by rw [wrap_id (by omega) (by omega)]; omega
                    obtain ⟨b5, p5, B5, c5, s1, s2, f5, rfl, _, _⟩ := og3.at (n := 4) rfl (i := ((i - 3 : Nat) : Int)) (by omega) (by simpa using hq)
                    have s40 := s2.cell0 (by simp [sxC])
                    simp [sxC] at s40
                    have both : ∀ z : Bool, (q.c == s.c) = z → (z = true → okS l i = false) ∧ (z = false → okS l i = true) := fun z hz => ⟨fun e => by rw [ok3]; simp [bne, hz, e], fun e => by rw [ok3]; simp [bne, hz, e]⟩
                    cases e5 : (q.c == s.c) with
                    | true =>
                      have ob := (both _ e5).1 rfl
                      by_cases c1 : p.c = s.c
                      · have c2 : p.b = s.b := by
                          by_cases q : p.b = s.b
                          · exact q
                          · exact absurd ⟨c1, q⟩ hpb
                        simp [J_precentorref9_RightSubs_5, a0, a3, a4, h0', h0'', w1, r1, r2.get, r40, r41, os3.1, sxC, c1, c2, h3', h3'', w3, s1, s2.get, s40, e5]
                        exact Tells.ok (bad ob _ _ (by simp) X3)
                      · simp [J_precentorref9_RightSubs_5, a0, a3, a4, h0', h0'', w1, r1, r2.get, r40, r41, os3.1, sxC, beq_eq_false_iff_ne.2 c1, h3', h3'', w3, s1, s2.get, s40, e5]
                        exact Tells.ok (bad ob _ _ (by simp) X3)
                    | false =>
                      have ob := (both _ e5).2 rfl
                      by_cases c1 : p.c = s.c
                      · have c2 : p.b = s.b := by
                          by_cases q : p.b = s.b
                          · exact q
                          · exact absurd ⟨c1, q⟩ hpb
                        simp [J_precentorref9_RightSubs_5, a0, a3, a4, h0', h0'', w1, r1, r2.get, r40, r41, os3.1, sxC, c1, c2, h3', h3'', w3, s1, s2.get, s40, e5, J_precentorref9_RightSubs_3, w]
                        exact Tells.ok (go ob _ (by simp [a0]) (by simp))
                      · simp [J_precentorref9_RightSubs_5, a0, a3, a4, h0', h0'', w1, r1, r2.get, r40, r41, os3.1, sxC, beq_eq_false_iff_ne.2 c1, h3', h3'', w3, s1, s2.get, s40, e5, J_precentorref9_RightSubs_3, w]
                        exact Tells.ok (go ob _ (by simp [a0]) (by simp))
                by_cases c1 : p.c < s.c
                · have nc : ¬ p.c = s.c := by omega
                  simp [t3, t0, J_precentorref9_RightSubs_4, h0', h0'', w1, r1, r2.get, r40, os3.1, sxC, c1]
                  exact last (by have : (p.c == s.c) = false := beq_eq_false_iff_ne.2 nc; simp [c1, this]) _ (by simp [t0]) (by simp [t3]) (by simp) (fun q => nc q.1)
                · by_cases c2 : p.c = s.c
                  · by_cases c3 : p.n < s.n
                    · by_cases c4 : p.b = s.b
                      · simp [t3, t0, J_precentorref9_RightSubs_4, h0', h0'', w1, r1, r2.get, r40, r42, os3.1, sxC, c2, c3]
                        exact last (by simp [c2, c3, c4]) _ (by simp [t0]) (by simp [t3]) (by simp) (fun q => q.2 c4)
                      · have ob : okS l i = false := by
                          have e3 : (p.b != s.b) = true := by simp [c4]
                          simp [okS, hs, n0, hp, c2, c3, e3]
                        have c4' : (p.b != s.b) = true := by simp [c4]
                        simp [t3, t0, J_precentorref9_RightSubs_4, h0', h0'', w1, r1, r2.get, r40, r41, r42, os3.1, sxC, c2, c3, J_precentorref9_RightSubs_5, c4']
                        exact Tells.ok (bad ob _ _ (by simp) X3)
                    · have ob : okS l i = false := by simp [okS, hs, n0, hp, c1, c3]
                      simp [t3, t0, J_precentorref9_RightSubs_4, h0', h0'', w1, r1, r2.get, r40, r42, os3.1, sxC, c2, c3]
                      exact Tells.ok (bad ob _ _ (by simp) X3)
                  · have ob : okS l i = false := by simp [okS, hs, n0, hp, c1, beq_eq_false_iff_ne.2 c2]
                    simp [t3, t0, J_precentorref9_RightSubs_4, h0', h0'', w1, r1, r2.get, r40, r42, os3.1, sxC, c1, beq_eq_false_iff_ne.2 c2]
                    exact Tells.ok (bad ob _ _ (by simp) X3)
    · simp at hc
      exact Tells.ok (hQ2 _ _ (.inr ⟨by simp, .inl ⟨rfl, rightS_true fun j hj => hok j (by omega)⟩, xg⟩))
  · rintro ⟨ex, t⟩ g ⟨⟨rfl, he⟩ | ⟨rfl, t2, he⟩, xg⟩
    · simp [J_precentorref9_RightSubs_0]
      exact Tells.ok (hQ _ _ ⟨by rw [he], xg⟩)
    · have t2 : t 2 = .bool false := t2
      simp [t2]
      exact Tells.ok (hQ _ _ ⟨by rw [he], xg⟩)

def ofL (l : List Sx) (c : Int) : List Sx := l.filter fun x => x.c == c

theorem ref_Of (hX : OnlyKnown X) {h : Heap} {v : AVal} {l : List Sx} (o : Sl sxR h v l) (hl : l.length ≤ 1000) (cl : Int) :
    Tells (fun q => acallX Try.prog X q F_precentorref9_Of [v, I cl] h) fun r h' => Sl sxR h' r (ofL l cl) ∧ Ext [] h h' := by
  refine R_precentorref9_Of _ _ (hX _ _ rfl) ?_
  refine Tells.prot fun Q' hQ => ?_
  unfold S_precentorref9_Of
  try simp
  refine Tells.bind (Tells.loop (fun n t g => ∃ i : Nat, t 0 = v ∧ t 1 = I cl ∧ t 6 = I i ∧ i + n = l.length ∧ Gl sxR h g (t 5) (ofL (l.take i) cl) ∧ Ext [] h g)
    (Q := fun p g => p.1 = .exit 0 ∧ Sl sxR g (p.2 5) (ofL l cl) ∧ Ext [] h g) ?_ l.length _ _ ⟨0, by simp, by simp, by simp, by omega, by simpa [ofL] using Gl.nil, .refl⟩) ?_
  · rintro n t g ⟨i, t0, t1, t6, hi, gl, xg⟩
    refine Tells.prot fun Q2 hQ2 => ?_
    unfold L_precentorref9_Of_1
    have og := o.ext xg
    simp [t0, t6, og.len]
    refine Tells.cb (fun hc => ?_) (fun hc => ?_)
    · simp at hc
      obtain ⟨s, hs⟩ : ∃ s, l[i]? = some s := ⟨_, List.getElem?_eq_getElem hc⟩
      obtain ⟨b, q, B, c, q1, q2, fv, rfl, of_, _⟩ := og.at (n := 4) rfl (i := (i : Int)) (by omega) (by simpa using hs)
      have w : IntKind.i64.wrap ((i : Int) + 1) = i + 1 := wrap_id (by omega) (by omega)
      have q40 := q2.cell0 (by simp [sxC])
      simp [sxC] at q40
      have q4 := q2.lda (n := 4) rfl
      have q4b : (if q + 4 ≤ B.length then some (AVal.agg (List.take 4 (List.drop q B))) else none) = some (.agg (sxC s fv)) := by
        have := q4
        simpa [q2.get] using this
      have tk : ofL (l.take (i + 1)) cl = ofL (l.take i) cl ++ (if s.c = cl then [s] else []) := by
        rw [List.take_add_one, hs]
        unfold ofL
        rw [List.filter_append]
        congr 1
        by_cases e : s.c = cl <;> simp [e]
      have len2 : (ofL (l.take i) cl).length ≤ l.length := by
        refine Nat.le_trans (List.length_filter_le _ _) ?_
        simp; omega
      by_cases e : s.c = cl
      · simp [J_precentorref9_Of_2, t0, t1, t6, q1, q2.get, q40, e, q4b]
        refine Tells.app1 gl (by rfl) (by rfl) (show sxR.rep g (sxC s fv) s from ⟨fv, rfl, of_, fun _ _ => trivial⟩) (by rfl) (by rfl) (by omega) (by decide) xg.next fun s4 g4 gl4 x4 y4 _ => ?_
        simp [J_precentorref9_Of_3, t6, w]
        exact Tells.ok (hQ2 _ _ (.inl ⟨rfl, n - 1, by omega, i + 1, by simp [t0], by simp [t1], by simp, by omega, by rw [tk, if_pos e]; simpa using gl4, y4 [] xg⟩))
      · simp [J_precentorref9_Of_2, t0, t1, t6, q1, q2.get, q40, beq_eq_false_iff_ne.2 e, J_precentorref9_Of_3, w]
        exact Tells.ok (hQ2 _ _ (.inl ⟨rfl, n - 1, by omega, i + 1, by simp [t0], by simp [t1], by simp, by omega, by rw [tk, if_neg e]; simpa using gl, xg⟩))
    · simp at hc
      have hfl : l.take i = l := List.take_of_length_le (by omega)
      rw [hfl] at gl
      exact Tells.ok (hQ2 _ _ (.inr ⟨by simp, rfl, by simpa using gl.1, xg⟩))
  · rintro ⟨ex, t⟩ g ⟨rfl, sl, xg⟩
    simp [J_precentorref9_Of_0]
    exact Tells.ok (hQ _ _ ⟨by simpa using sl, xg⟩)

theorem names4_word : ∀ n, n ∈ names4 → wordB n = true ∧ n.size < 2 ^ 63 := by decide +kernel

theorem FedF.szn {l : List Prd} (h : FedF l) : l.length ≤ 1000 ∧ ∀ p, p ∈ l → SzN p := ⟨by have := h.1; omega, fun p hp => ⟨by have := (h.2.1 p hp).set_le; omega, (names4_word _ (h.2.1 p hp).1).2⟩⟩

end
end Go.Proofs.Ytbkfamdkdjajjaa

/-! Attributes: the same (printed by mk14.py). -/
namespace Go.Proofs.Ytbkfamdkdjajjaa
open Go.Ab

section
variable {X : XTab}

def getA (l : List Att) (nm : ByteArray) : Option Att := l.find? fun a => a.1.toList == nm.toList

def sameA : List Att → List Att → Bool
  | [], [] => true
  | a :: l, b :: m => (a.1.toList == b.1.toList && sameV a.2 b.2) && sameA l m
  | _, _ => false

theorem sameA_self : ∀ l : List Att, sameA l l = true
  | [] => rfl
  | a :: l => by simp [sameA, sameV_self, sameA_self l]

theorem sameA_len : ∀ {l m : List Att}, l.length ≠ m.length → sameA l m = false
  | [], [], h => absurd rfl h
  | a :: l, b :: m, h => by simp only [sameA, sameA_len (l := l) (m := m) (by simpa using h), Bool.and_false]
  | [], _ :: _, _ => rfl
  | _ :: _, [], _ => rfl

theorem sameA_drop {l m : List Att} {i : Nat} {a b : Att} (h1 : l[i]? = some a) (h2 : m[i]? = some b) : sameA (l.drop i) (m.drop i) = ((a.1.toList == b.1.toList && sameV a.2 b.2) && sameA (l.drop (i + 1)) (m.drop (i + 1))) := by
  have a1 := List.getElem?_eq_some_iff.1 h1
  have a2 := List.getElem?_eq_some_iff.1 h2
  rw [List.drop_eq_getElem_cons a1.1, List.drop_eq_getElem_cons a2.1, a1.2, a2.2]
  rfl

theorem att_at {h : Heap} {v : AVal} {ats : List Att} (o : Sl attrR h v ats) {i : Nat} {a : Att} (hx : ats[i]? = some a) :
    ∃ b p B, ixsR 6 v (.int .i64 (i : Int)) = some (.ptr b p) ∧ h.get b = some B ∧ p + 6 ≤ B.length ∧ (B.drop p).take 6 = attC a ∧ B[p]? = some (.str a.1) ∧ p + 1 + 5 ≤ B.length ∧ (B.drop (p + 1)).take 5 = vlC a.2 := by
  obtain ⟨b, p, B, c, q1, e, r⟩ := o.at (n := 6) rfl (i := (i : Int)) (by omega) (by simpa using hx)
  have r : c = attC a := r
  subst r
  have l := e.le
  have s := e.sub 1 5 (by simp [attC, vlC])
  have sl := s.le
  have se := s.eq
  have e0 := e.eq
  simp only [attC, vlC, List.length_cons, List.length_nil] at l sl e0
  exact ⟨b, p, B, q1, e.get, by omega, e0, e.cell0 (by simp [attC]), by omega, se⟩

end
end Go.Proofs.Ytbkfamdkdjajjaa

/-! precentorref1.Get (printed by mk14.py). -/
namespace Go.Proofs.Ytbkfamdkdjajjaa
open Go.Ab

section
variable {X : XTab}

theorem ref_Get (hX : OnlyKnown X) {h : Heap} {v : AVal} {ats : List Att} (o : Sl attrR h v ats) (hl : ats.length ≤ 100) (nm : ByteArray) :
    Tells (fun q => acallX Try.prog X q F_precentorref1_Get [v, .str nm] h) fun r h' => Ext [] h h' ∧ ((∃ a, getA ats nm = some a ∧ r = .tup [.agg (vlC a.2), .bool true]) ∨ (getA ats nm = none ∧ r = .tup [.agg (vlC vl0), .bool false])) := by
  refine R_precentorref1_Get _ _ (hX _ _ rfl) ?_
  refine Tells.prot fun Q' hQ => ?_
  unfold S_precentorref1_Get
  try simp
  refine Tells.new fun h1 br or x1 l1 => ?_
  have or : Ob h1 br (vlC vl0) := or
  have o1 := o.ext x1
  try simp
  refine Tells.bind (Tells.loop (fun n t g => ∃ i : Nat, t 0 = v ∧ t 1 = .str nm ∧ t 4 = .ptr br 0 ∧ t 5 = .bool false ∧ t 6 = I i ∧ i + n = ats.length ∧ Ob g br (vlC vl0) ∧ Ext [] h g ∧ h.next ≤ br ∧ getA ats nm = getA (ats.drop i) nm)
    (Q := fun p g => Ext [] h g ∧ p.2 4 = .ptr br 0 ∧ ((p.1 = .exit 0 ∧ getA ats nm = none ∧ Ob g br (vlC vl0)) ∨ (p.1 = .ret ∧ p.2 5 = .bool true ∧ ∃ a, getA ats nm = some a ∧ Ob g br (vlC a.2)))) ?_ ats.length _ _ ?_) ?_
  · rintro n t g ⟨i, t0, t1, t4, t5, t6, hi, or, x, l, hg⟩
    refine Tells.prot fun Q2 hQ2 => ?_
    unfold L_precentorref1_Get_1
    simp [t0, t6, o.len]
    refine Tells.cb (fun hc => ?_) (fun hc => ?_)
    · simp at hc
      obtain ⟨a, ha⟩ : ∃ a, ats[i]? = some a := ⟨_, List.getElem?_eq_getElem hc⟩
      obtain ⟨b, p, B, q1, q2, q3, q4, q5, q6, q7⟩ := att_at (o.ext x) ha
      have w : IntKind.i64.wrap ((i : Int) + 1) = i + 1 := wrap_id (by omega) (by omega)
      have hd : ats.drop i = a :: ats.drop (i + 1) := by rw [List.drop_eq_getElem_cons hc, (List.getElem?_eq_some_iff.1 ha).2]
      rw [hd] at hg
      cases c : (a.1.toList == nm.toList) with
      | true =>
        simp [J_precentorref1_Get_2, t0, t1, t6, q1, q2, q5, q6, q7, c, t4]
        refine Tells.stN or (ds := vlC a.2) (by rfl) (by rfl) (by rfl) (by rfl) fun g2 or2 x2 => ?_
        try simp
        exact Tells.ok (hQ2 _ _ (.inr ⟨by simp, x.then x2 fun z hz => .inr (by simp at hz; omega), by simp [t4], .inr ⟨rfl, by simp, a, by rw [hg]; simp [getA, c], or2⟩⟩))
      | false =>
        simp [J_precentorref1_Get_2, t0, t1, t6, q1, q2, q5, q6, q7, c, J_precentorref1_Get_3, w]
        exact Tells.ok (hQ2 _ _ (.inl ⟨rfl, n - 1, by omega, i + 1, by simp [t0], by simp [t1], by simp [t4], by simp [t5], by simp, by omega, or, x, l, by rw [hg]; simp [getA, c]⟩))
    · simp at hc
      exact Tells.ok (hQ2 _ _ (.inr ⟨by simp, x, by simp [t4], .inl ⟨rfl, by rw [hg, List.drop_eq_nil_of_le (by omega)]; rfl, or⟩⟩))
  · exact ⟨0, by simp, by simp, by simp, by simp, by simp, by omega, or, x1, l1, rfl⟩
  · rintro ⟨ex, t⟩ g ⟨x, t4, ⟨rfl, hn, or⟩ | ⟨rfl, t5, a, ha, or⟩⟩
    · simp only at t4
      simp [J_precentorref1_Get_0, t4, bldR, fillR]
      refine Tells.stN or (ds := vlC vl0) (by rfl) (by rfl) (by rfl) (by rfl) fun g2 or2 x2 => ?_
      simp [t4, C_precentorref1_Get_0, or2.1]
      exact Tells.ok (hQ _ _ ⟨x.then x2 fun z hz => .inr (by simp at hz; omega), .inr ⟨hn, rfl⟩⟩)
    · simp only at t4 t5
      simp [t4, t5, C_precentorref1_Get_0, or.1]
      exact Tells.ok (hQ _ _ ⟨x, .inl ⟨a, ha, rfl⟩⟩)

end
end Go.Proofs.Ytbkfamdkdjajjaa

/-! precentorref1.Cmp, CmpInt (printed by mk14.py). -/
namespace Go.Proofs.Ytbkfamdkdjajjaa
open Go.Ab

section
variable {X : XTab}

theorem key_top : keyF 4890909195324358656 = some (9223372036854775808 * (E1074 : Int)) := by
  have h1 : rungF 4890909195324358656 = 4890909195324358656 := by decide
  have h2 : sgF 4890909195324358656 = false := by decide
  have h3 : maF 4890909195324358656 = 4503599627370496 := by decide
  have h4 : plF 4890909195324358656 = 11 + 1074 := by decide
  unfold keyF
  rw [h1, h2, if_pos (by decide)]
  unfold mgF
  rw [h3, h4, E_split (p := 11 + 1074) (q := 11) rfl]
  show some (((4503599627370496 * (2 ^ 11 * E1074) : Nat) : Int)) = _
  have : 4503599627370496 * (2 ^ 11 * E1074) = 9223372036854775808 * E1074 := by rw [← Nat.mul_assoc]
  rw [this]
  simp

theorem key_bot : keyF 14114281232179134464 = some (-(9223372036854775808 * (E1074 : Int))) := by
  have h1 : rungF 14114281232179134464 = 4890909195324358656 := by decide
  have h2 : sgF 14114281232179134464 = true := by decide
  have h3 : maF 4890909195324358656 = 4503599627370496 := by decide
  have h4 : plF 4890909195324358656 = 11 + 1074 := by decide
  unfold keyF
  rw [h1, h2, if_pos (by decide)]
  unfold mgF
  rw [h3, h4, E_split (p := 11 + 1074) (q := 11) rfl]
  show some (-((4503599627370496 * (2 ^ 11 * E1074) : Nat) : Int)) = _
  have : 4503599627370496 * (2 ^ 11 * E1074) = 9223372036854775808 * E1074 := by rw [← Nat.mul_assoc]
  rw [this]
  simp

theorem trunc_nat {x : Nat} {a : Int} (k : keyF x = some a) : aNat Try.prog F_math_archTrunc [.flt .f64 x] = some (.flt .f64 (trF x)) := by
  have e : ∃ s m i, Ieee.double.read x = .number s m i ∨ Ieee.double.read x = .infinity s := by
    unfold keyF at k
    split at k
    · rename_i h
      rcases Nat.lt_or_eq_of_le h with q | q
      · exact ⟨_, _, _, .inl (read_num q)⟩
      · exact ⟨_, 0, 0, .inr (read_inf q)⟩
    · cases k
  have hn : aNat Try.prog F_math_archTrunc [.flt .f64 x] = aPureB Try.prog (Go.Extern.MathFloor.toIntegral "math.archTrunc" .zero) [.flt .f64 x] := by kernel_rfl
  rw [hn]
  obtain ⟨s, m, i, e⟩ := e
  have e2 : Go.Extern.MathFloor.toIntegral "math.archTrunc" .zero #[.float .f64 x] = pure (Value.float .f64 (trF x)) := by
    show (match FloatKind.f64.decode x with
      | .nan s t => _
      | d => pure (Value.float .f64 (FloatKind.f64.encode (d.integral .zero)))) = _
    have hd : FloatKind.f64.decode x = Ieee.double.read x := rfl
    rw [hd]
    unfold trF
    rcases e with e | e <;> rw [e] <;> rfl
  have v1 : AVal.toVs [.flt .f64 x] = some [.float .f64 x] := rfl
  unfold aPureB
  rw [v1]
  show (match aPure Try.prog (Go.Extern.MathFloor.toIntegral "math.archTrunc" .zero #[.float .f64 x]) with
    | some r => some (ofV 0 r)
    | none => none) = _
  rw [e2]
  rfl

theorem conv_w {h : Heap} {x : Nat} {w : Int} (e : (Ieee.double.read x).toInt .zero = some w) (h1 : -9223372036854775808 ≤ w) (h2 : w ≤ 9223372036854775807) : aConv Try.prog h 89 2 (.flt .f64 x) = .val (I w) h := by
  have hn : aConv Try.prog h 89 2 (.flt .f64 x) = match aPure Try.prog (Conv.floatToInt .f64 x .i64) with
    | some r => .val (ofV 0 r) h
    | none => .fail := by kernel_rfl
  rw [hn]
  have : aPure Try.prog (Conv.floatToInt .f64 x .i64) = some (.int .i64 w) := by
    unfold Conv.floatToInt
    show aPure Try.prog (match (Ieee.double.read x).toInt .zero with
      | some n => if IntKind.min .i64 ≤ n ∧ n ≤ IntKind.max .i64 then pure (Value.int .i64 n) else _
      | none => _) = _
    rw [e]
    simp only
    rw [if_pos ⟨h1, h2⟩]
    rfl
  rw [this]
  rfl

theorem sgI_lt {a b : Int} (h : a < b) : sgI a b = -1 := by unfold sgI; rw [if_pos h]

theorem sgI_gt {a b : Int} (h : b < a) : sgI a b = 1 := by unfold sgI; rw [if_neg (by omega), if_pos h]

theorem sgI_eq (a : Int) : sgI a a = 0 := by unfold sgI; rw [if_neg (by omega), if_neg (by omega)]

theorem E_posI : (0 : Int) < (E1074 : Int) := Int.ofNat_lt.2 E_pos

theorem mul_lt {a b : Int} (h : a < b) : a * (E1074 : Int) < b * (E1074 : Int) := Int.mul_lt_mul_of_pos_right h E_posI

theorem mul_le {a b : Int} (h : a ≤ b) : a * (E1074 : Int) ≤ b * (E1074 : Int) := Int.mul_le_mul_of_nonneg_right h (Int.le_of_lt E_posI)

theorem whole_lt {n w a : Int} (h0 : 0 ≤ a → w = a / (E1074 : Int)) (h1 : a ≤ 0 → w = -((-a) / (E1074 : Int))) : (n < w → n * (E1074 : Int) < a) ∧ (w < n → a < n * (E1074 : Int)) := by
  have hE := E_posI
  rcases Int.le_total 0 a with ha | ha
  · have hw := h0 ha
    have e1 : w * (E1074 : Int) ≤ a := by rw [hw]; exact Int.ediv_mul_le a (by omega)
    have e2 : a < (w + 1) * (E1074 : Int) := by rw [hw]; exact Int.lt_ediv_add_one_mul_self a hE
    refine ⟨fun h => ?_, fun h => ?_⟩
    · have := mul_lt h; omega
    · have := mul_le (show w + 1 ≤ n by omega); omega
  · have hw := h1 ha
    have e1 : (-a) / (E1074 : Int) * (E1074 : Int) ≤ -a := Int.ediv_mul_le (-a) (by omega)
    have e2 : -a < ((-a) / (E1074 : Int) + 1) * (E1074 : Int) := Int.lt_ediv_add_one_mul_self (-a) hE
    generalize (-a) / (E1074 : Int) = q at *
    subst hw
    have e3 : -q * (E1074 : Int) = -(q * (E1074 : Int)) := Int.neg_mul _ _
    have e4 : (-q - 1) * (E1074 : Int) = -((q + 1) * (E1074 : Int)) := by rw [← Int.neg_mul]; congr 1; omega
    refine ⟨fun h => ?_, fun h => ?_⟩
    · have := mul_le (show n ≤ -q - 1 by omega); omega
    · have := mul_lt h; omega

theorem sign_sgI (p q : Int) : (if compare p q == Ordering.lt then (-1 : Int) else if compare p q == Ordering.gt then 1 else 0) = sgI p q := by
  rw [cmp_def]
  unfold sgI
  by_cases h1 : p < q
  · simp [h1]
  · by_cases h2 : p = q
    · simp [h1, h2]
    · have : q < p := by omega
      simp [h1, h2, this]

theorem sign_sgI' (p q : Int) : (if compare p q = Ordering.lt then (-1 : Int) else if compare p q = Ordering.gt then 1 else 0) = sgI p q := by
  rw [← sign_sgI]
  simp

theorem ref_Cmp (hX : OnlyKnown X) (a b : Nat) (h : Heap) : Tells (fun q => acallX Try.prog X q F_precentorref1_Cmp [.flt .f64 a, .flt .f64 b] h) fun r h' => r = .tup [I (cmpF a b).1, .bool (cmpF a b).2] ∧ h' = h := by
  refine R_precentorref1_Cmp _ _ (hX _ _ rfl) ?_
  unfold S_precentorref1_Cmp
  cases ka : keyF a with
  | none =>
    simp [ford_none (x := a) (y := a) (.inl ka)]
    exact Tells.ok ⟨by simp [cmpF, ka], rfl⟩
  | some p =>
    cases kb : keyF b with
    | none =>
      simp [ford_some ka ka, cmp_eq, ford_none (x := b) (y := b) (.inl kb)]
      exact Tells.ok ⟨by simp [cmpF, ka, kb], rfl⟩
    | some q =>
      have e : cmpF a b = (sgI p q, true) := by simp [cmpF, ka, kb]
      rw [e]
      rcases Int.lt_trichotomy p q with c | c | c
      · simp [ford_some ka ka, ford_some kb kb, cmp_eq, ford_some ka kb, cmp_lt c]
        exact Tells.ok ⟨by rw [sgI_lt c], rfl⟩
      · subst c
        simp [ford_some ka ka, ford_some kb kb, cmp_eq, ford_some ka kb, J_precentorref1_Cmp_0]
        exact Tells.ok ⟨by rw [sgI_eq], rfl⟩
      · simp [ford_some ka ka, ford_some kb kb, cmp_eq, ford_some ka kb, cmp_gt c]
        exact Tells.ok ⟨by rw [sgI_gt c], rfl⟩

theorem math_Trunc (hX : OnlyKnown X) {x : Nat} {a : Int} (k : keyF x = some a) (h : Heap) : Tells (fun q => acallX Try.prog X q F_math_Trunc [.flt .f64 x] h) fun r h' => r = .flt .f64 (trF x) ∧ h' = h := by
  refine R_math_Trunc _ (hX _ _ rfl) ?_
  unfold S_math_Trunc
  simp [trunc_nat k]
  exact Tells.ok ⟨rfl, rfl⟩

theorem cmpIF_some {n : Int} {x : Nat} {a : Int} (k : keyF x = some a) : cmpIF n x = (sgI (n * (E1074 : Int)) a, true) := by simp [cmpIF, k]

theorem ref_CmpInt (hX : OnlyKnown X) (n : Int) (hn : In64 n) (x : Nat) (h : Heap) : Tells (fun q => acallX Try.prog X q F_precentorref1_CmpInt [I n, .flt .f64 x] h) fun r h' => r = .tup [I (cmpIF n x).1, .bool (cmpIF n x).2] ∧ h' = h := by
  refine R_precentorref1_CmpInt _ _ (hX _ _ rfl) ?_
  refine Tells.prot fun Q' hQ => ?_
  unfold S_precentorref1_CmpInt
  have hE := E_posI
  have hb1 := mul_le (show -9223372036854775808 ≤ n from hn.1)
  have hb2 := mul_lt hn.2
  cases k : keyF x with
  | none =>
    simp [ford_none (x := x) (y := x) (.inl k)]
    exact Tells.ok (hQ _ _ ⟨by simp [cmpIF, k], rfl⟩)
  | some a =>
  rw [cmpIF_some k] at hQ
  have f0 : (ford x x != some .eq) = false := by rw [nan_key, k]; rfl
  by_cases c1 : 9223372036854775808 * (E1074 : Int) ≤ a
  · have : (ford x 4890909195324358656 == some .gt || ford x 4890909195324358656 == some .eq) = true := by
      rw [ford_some k key_top]
      rcases Int.lt_or_eq_of_le c1 with q | q
      · rw [cmp_gt q]; rfl
      · rw [q, cmp_eq]; rfl
    simp [f0, this]
    exact Tells.ok (hQ _ _ ⟨by rw [sgI_lt (by omega)], rfl⟩)
  have f1 : (ford x 4890909195324358656 == some .gt || ford x 4890909195324358656 == some .eq) = false := by
    rw [ford_some k key_top, cmp_lt (by omega)]; rfl
  by_cases c2 : a < -(9223372036854775808 * (E1074 : Int))
  · have : (ford x 14114281232179134464 == some .lt) = true := by
      rw [ford_some k key_bot, cmp_lt c2]; rfl
    simp [f0, f1, this]
    exact Tells.ok (hQ _ _ ⟨by rw [sgI_gt (by omega)], rfl⟩)
  have f2 : (ford x 14114281232179134464 == some .lt) = false := by
    rw [ford_some k key_bot]
    rw [beq_eq_false_iff_ne]
    intro q
    exact c2 (cmp_iff_lt.1 (Option.some.inj q))
  obtain ⟨w, t1, t2, t3, t4, _, t5, t6⟩ := trunc_ k (by omega) (by omega)
  obtain ⟨l1, l2⟩ := whole_lt (n := n) t5 t6
  simp [f0, f1, f2, J_precentorref1_CmpInt_0]
  refine Tells.bind (math_Trunc hX k h) ?_
  rintro _ h ⟨rfl, rfl⟩
  simp [conv_w t1 t2 t3]
  rcases Int.lt_trichotomy n w with c3 | c3 | c3
  · simp [c3]
    exact Tells.ok (hQ _ _ ⟨by rw [sgI_lt (l1 c3)], rfl⟩)
  · subst c3
    rcases Int.lt_trichotomy (n * (E1074 : Int)) a with c | c | c
    · simp [ford_some t4 k, cmp_lt c]
      exact Tells.ok (hQ _ _ ⟨by rw [sgI_lt c], rfl⟩)
    · rw [c] at t4
      simp [ford_some t4 k, cmp_eq, J_precentorref1_CmpInt_1]
      exact Tells.ok (hQ _ _ ⟨by rw [c, sgI_eq], rfl⟩)
    · simp [ford_some t4 k, cmp_gt c]
      exact Tells.ok (hQ _ _ ⟨by rw [sgI_gt c], rfl⟩)
  · simp [c3, show ¬ n < w by omega]
    exact Tells.ok (hQ _ _ ⟨by rw [sgI_gt (l2 c3)], rfl⟩)

end
end Go.Proofs.Ytbkfamdkdjajjaa

/-! Values compared (printed by mk14.py). -/
namespace Go.Proofs.Ytbkfamdkdjajjaa
open Go.Ab

section
variable {X : XTab}

theorem sgI_zero (p q : Int) : (sgI p q == 0) = (p == q) := by
  rcases Int.lt_trichotomy p q with h | h | h
  · rw [sgI_lt h]
    have : (p == q) = false := beq_eq_false_iff_ne.2 (by omega)
    rw [this]; rfl
  · subst h; rw [sgI_eq]; simp
  · rw [sgI_gt h]
    have : (p == q) = false := beq_eq_false_iff_ne.2 (by omega)
    rw [this]; rfl

theorem sgI_three (p q : Int) : sgI p q = -1 ∧ p < q ∨ sgI p q = 0 ∧ p = q ∨ sgI p q = 1 ∧ q < p := by
  rcases Int.lt_trichotomy p q with h | h | h
  · exact .inl ⟨sgI_lt h, h⟩
  · subst h; exact .inr (.inl ⟨sgI_eq _, rfl⟩)
  · exact .inr (.inr ⟨sgI_gt h, h⟩)

def ordB (below above : Bool) : Int := if below then -1 else if above then 1 else 0

def sgT (a b : ByteArray) : Int := ordB (Op.bytesLess a.toList b.toList) (!(Op.bytesLess a.toList b.toList || a.toList == b.toList))

def cmpV (v w : Vl) : Int × Bool :=
  if v.k = 1 ∧ w.k = 1 then (sgI v.n w.n, true)
  else if v.k = 2 ∧ w.k = 2 then cmpF v.x w.x
  else if v.k = 1 ∧ w.k = 2 then cmpIF v.n w.x
  else if v.k = 2 ∧ w.k = 1 then (-(cmpIF w.n v.x).1, (cmpIF w.n v.x).2)
  else if v.k = 3 ∧ w.k = 3 then (sgT v.s w.s, true)
  else if v.k = 4 ∧ w.k = 4 then (ordB (!v.b && w.b) (v.b && !w.b), true)
  else (0, false)

theorem sgI_in (p q : Int) : -1 ≤ sgI p q ∧ sgI p q ≤ 1 := by
  rcases sgI_three p q with ⟨e, _⟩ | ⟨e, _⟩ | ⟨e, _⟩ <;> omega

theorem cmpIF_in (n : Int) (x : Nat) : -1 ≤ (cmpIF n x).1 ∧ (cmpIF n x).1 ≤ 1 := by
  unfold cmpIF
  split
  · exact sgI_in _ _
  · simp

theorem cmpIF_none {n : Int} {x : Nat} (k : keyF x = none) : cmpIF n x = (0, false) := by simp [cmpIF, k]

theorem fed_in {v : Vl} (h : FedV v) : In64 v.n := by
  rcases h with ⟨_, _, _, _, n⟩ | ⟨_, n, _⟩ | ⟨_, n, _⟩ | ⟨_, n, _⟩
  · exact n
  · rw [n]; exact ⟨by decide, by decide⟩
  · rw [n]; exact ⟨by decide, by decide⟩
  · rw [n]; exact ⟨by decide, by decide⟩

end
end Go.Proofs.Ytbkfamdkdjajjaa

/-! precentorref1.CmpValue, Is (printed by mk14.py). -/
namespace Go.Proofs.Ytbkfamdkdjajjaa
open Go.Ab

section
variable {X : XTab}

theorem un_neg (z : Int) : aUn Try.prog .neg (.int .i64 z) = some (I (IntKind.i64.wrap (0 - z))) := by kernel_rfl

theorem five (k : Int) : k = 1 ∨ k = 2 ∨ k = 3 ∨ k = 4 ∨ ((k == 1) = false ∧ (k == 2) = false ∧ (k == 3) = false ∧ (k == 4) = false) := by
  by_cases h1 : k = 1
  · exact .inl h1
  by_cases h2 : k = 2
  · exact .inr (.inl h2)
  by_cases h3 : k = 3
  · exact .inr (.inr (.inl h3))
  by_cases h4 : k = 4
  · exact .inr (.inr (.inr (.inl h4)))
  exact .inr (.inr (.inr (.inr ⟨beq_eq_false_iff_ne.2 h1, beq_eq_false_iff_ne.2 h2, beq_eq_false_iff_ne.2 h3, beq_eq_false_iff_ne.2 h4⟩)))

theorem ord_sgI (p q : Int) : ordB (decide (p < q)) (decide (q < p)) = sgI p q := by
  unfold ordB sgI
  by_cases h1 : p < q <;> by_cases h2 : q < p <;> simp [h1, h2]

theorem ref_CmpValue (hX : OnlyKnown X) (v u : Vl) (hv : In64 v.n) (hu : In64 u.n) (h : Heap) : Tells (fun q => acallX Try.prog X q F_precentorref1_CmpValue [.agg (vlC v), .agg (vlC u)] h) fun r h' => r = .tup [I (cmpV v u).1, .bool (cmpV v u).2] ∧ Ext [] h h' := by
  refine R_precentorref1_CmpValue _ _ (hX _ _ rfl) ?_
  refine Tells.prot fun Q' hQ => ?_
  have u4 := Try.underlying4
  obtain ⟨ka, na, xa, sa, ba⟩ := v
  obtain ⟨kb, nb, xb, sb, bb⟩ := u
  unfold S_precentorref1_CmpValue
  try simp
  refine Tells.box rfl rfl fun h1 bA oA x1 l1 => ?_
  try simp
  refine Tells.box rfl rfl fun h2 bB oB x2 l2 => ?_
  have oA2 := oA.e x2
  have x := x1.trans x2
  have gA : h2.get bA = some [I ka, I na, .flt .f64 xa, .str sa, .bool ba] := oA2.1
  have gB : h2.get bB = some [I kb, I nb, .flt .f64 xb, .str sb, .bool bb] := oB.1
  simp only at hv hu
  rcases five ka with rfl | rfl | rfl | rfl | ⟨ka1, ka2, ka3, ka4⟩ <;> rcases five kb with rfl | rfl | rfl | rfl | ⟨kb1, kb2, kb3, kb4⟩
  · rcases sgI_three na nb with ⟨e, c⟩ | ⟨e, c⟩ | ⟨e, c⟩
    · simp [gA, gB, c]
      exact Tells.ok (hQ _ _ ⟨by simp [cmpV, e], x⟩)
    · simp [gA, gB, c, J_precentorref1_CmpValue_1, J_precentorref1_CmpValue_2]
      exact Tells.ok (hQ _ _ ⟨by simp [cmpV, c, sgI_eq], x⟩)
    · simp [gA, gB, c, show ¬ na < nb by omega, J_precentorref1_CmpValue_1]
      exact Tells.ok (hQ _ _ ⟨by simp [cmpV, e], x⟩)
  · simp [gA, gB]
    refine Tells.bind (ref_CmpInt hX na hv xb h2) ?_
    rintro _ h3 ⟨rfl, rfl⟩
    try simp
    exact Tells.ok (hQ _ _ ⟨by simp [cmpV], x⟩)
  · simp [gA, gB, J_precentorref1_CmpValue_0]
    exact Tells.ok (hQ _ _ ⟨by simp [cmpV], x⟩)
  · simp [gA, gB, J_precentorref1_CmpValue_0]
    exact Tells.ok (hQ _ _ ⟨by simp [cmpV], x⟩)
  · simp [gA, gB, kb1, kb2, kb3, kb4, J_precentorref1_CmpValue_0]
    exact Tells.ok (hQ _ _ ⟨by simp [cmpV, show ¬ kb = 1 from by simpa using kb1, show ¬ kb = 2 from by simpa using kb2, show ¬ kb = 3 from by simpa using kb3, show ¬ kb = 4 from by simpa using kb4], x⟩)
  · simp [gA, gB]
    refine Tells.bind (ref_CmpInt hX nb hu xa h2) ?_
    rintro _ h3 ⟨rfl, rfl⟩
    have wr : IntKind.i64.wrap (0 - (cmpIF nb xa).1) = 0 - (cmpIF nb xa).1 := by
      have := cmpIF_in nb xa
      exact wrap_id (by omega) (by omega)
    rw [Int.zero_sub] at wr
    simp [un_neg, wr]
    exact Tells.ok (hQ _ _ ⟨by simp [cmpV], x⟩)
  · simp [gA, gB]
    refine Tells.bind (ref_Cmp hX xa xb h2) ?_
    rintro _ h3 ⟨rfl, rfl⟩
    try simp
    exact Tells.ok (hQ _ _ ⟨by simp [cmpV], x⟩)
  · simp [gA, gB, J_precentorref1_CmpValue_0]
    exact Tells.ok (hQ _ _ ⟨by simp [cmpV], x⟩)
  · simp [gA, gB, J_precentorref1_CmpValue_0]
    exact Tells.ok (hQ _ _ ⟨by simp [cmpV], x⟩)
  · simp [gA, gB, kb1, kb2, kb3, kb4, J_precentorref1_CmpValue_0]
    exact Tells.ok (hQ _ _ ⟨by simp [cmpV, show ¬ kb = 1 from by simpa using kb1, show ¬ kb = 2 from by simpa using kb2, show ¬ kb = 3 from by simpa using kb3, show ¬ kb = 4 from by simpa using kb4], x⟩)
  · simp [gA, gB, J_precentorref1_CmpValue_0]
    exact Tells.ok (hQ _ _ ⟨by simp [cmpV], x⟩)
  · simp [gA, gB, J_precentorref1_CmpValue_0]
    exact Tells.ok (hQ _ _ ⟨by simp [cmpV], x⟩)
  · cases c1 : Op.bytesLess sa.toList sb.toList
    · cases c2 : (sa.toList == sb.toList)
      · simp [gA, gB, c1, c2, J_precentorref1_CmpValue_3]
        exact Tells.ok (hQ _ _ ⟨by simp [cmpV, sgT, ordB, c1, c2], x⟩)
      · simp [gA, gB, c1, c2, J_precentorref1_CmpValue_3, J_precentorref1_CmpValue_4]
        exact Tells.ok (hQ _ _ ⟨by simp [cmpV, sgT, ordB, c1, c2], x⟩)
    · simp [gA, gB, c1]
      exact Tells.ok (hQ _ _ ⟨by simp [cmpV, sgT, ordB, c1], x⟩)
  · simp [gA, gB, J_precentorref1_CmpValue_0]
    exact Tells.ok (hQ _ _ ⟨by simp [cmpV], x⟩)
  · simp [gA, gB, kb1, kb2, kb3, kb4, J_precentorref1_CmpValue_0]
    exact Tells.ok (hQ _ _ ⟨by simp [cmpV, show ¬ kb = 1 from by simpa using kb1, show ¬ kb = 2 from by simpa using kb2, show ¬ kb = 3 from by simpa using kb3, show ¬ kb = 4 from by simpa using kb4], x⟩)
  · simp [gA, gB, J_precentorref1_CmpValue_0]
    exact Tells.ok (hQ _ _ ⟨by simp [cmpV], x⟩)
  · simp [gA, gB, J_precentorref1_CmpValue_0]
    exact Tells.ok (hQ _ _ ⟨by simp [cmpV], x⟩)
  · simp [gA, gB, J_precentorref1_CmpValue_0]
    exact Tells.ok (hQ _ _ ⟨by simp [cmpV], x⟩)
  · cases ba <;> cases bb
    all_goals
      simp [gA, gB, u4, J_precentorref1_CmpValue_5, J_precentorref1_CmpValue_6]
      exact Tells.ok (hQ _ _ ⟨by simp [cmpV, ordB], x⟩)
  · simp [gA, gB, kb1, kb2, kb3, kb4, J_precentorref1_CmpValue_0]
    exact Tells.ok (hQ _ _ ⟨by simp [cmpV, show ¬ kb = 1 from by simpa using kb1, show ¬ kb = 2 from by simpa using kb2, show ¬ kb = 3 from by simpa using kb3, show ¬ kb = 4 from by simpa using kb4], x⟩)
  · simp [gA, gB, ka1, ka2, ka3, ka4, J_precentorref1_CmpValue_0]
    exact Tells.ok (hQ _ _ ⟨by simp [cmpV, show ¬ ka = 1 from by simpa using ka1, show ¬ ka = 2 from by simpa using ka2, show ¬ ka = 3 from by simpa using ka3, show ¬ ka = 4 from by simpa using ka4], x⟩)
  · simp [gA, gB, ka1, ka2, ka3, ka4, J_precentorref1_CmpValue_0]
    exact Tells.ok (hQ _ _ ⟨by simp [cmpV, show ¬ ka = 1 from by simpa using ka1, show ¬ ka = 2 from by simpa using ka2, show ¬ ka = 3 from by simpa using ka3, show ¬ ka = 4 from by simpa using ka4], x⟩)
  · simp [gA, gB, ka1, ka2, ka3, ka4, J_precentorref1_CmpValue_0]
    exact Tells.ok (hQ _ _ ⟨by simp [cmpV, show ¬ ka = 1 from by simpa using ka1, show ¬ ka = 2 from by simpa using ka2, show ¬ ka = 3 from by simpa using ka3, show ¬ ka = 4 from by simpa using ka4], x⟩)
  · simp [gA, gB, ka1, ka2, ka3, ka4, J_precentorref1_CmpValue_0]
    exact Tells.ok (hQ _ _ ⟨by simp [cmpV, show ¬ ka = 1 from by simpa using ka1, show ¬ ka = 2 from by simpa using ka2, show ¬ ka = 3 from by simpa using ka3, show ¬ ka = 4 from by simpa using ka4], x⟩)
  · simp [gA, gB, ka1, ka2, ka3, ka4, kb1, kb2, kb3, kb4, J_precentorref1_CmpValue_0]
    exact Tells.ok (hQ _ _ ⟨by simp [cmpV, show ¬ ka = 1 from by simpa using ka1, show ¬ ka = 2 from by simpa using ka2, show ¬ ka = 3 from by simpa using ka3, show ¬ ka = 4 from by simpa using ka4, show ¬ kb = 1 from by simpa using kb1, show ¬ kb = 2 from by simpa using kb2, show ¬ kb = 3 from by simpa using kb3, show ¬ kb = 4 from by simpa using kb4], x⟩)

theorem ref_Is (hX : OnlyKnown X) (v u : Vl) (hv : In64 v.n) (hu : In64 u.n) (h : Heap) : Tells (fun q => acallX Try.prog X q F_precentorref1_Is [.agg (vlC v), .agg (vlC u)] h) fun r h' => r = .bool ((cmpV v u).2 && (cmpV v u).1 == 0) ∧ Ext [] h h' := by
  refine R_precentorref1_Is _ _ (hX _ _ rfl) ?_
  refine Tells.prot fun Q' hQ => ?_
  unfold S_precentorref1_Is
  try simp
  refine Tells.box rfl rfl fun h1 bA oA x1 l1 => ?_
  try simp
  refine Tells.box rfl rfl fun h2 bB oB x2 l2 => ?_
  have oA2 := oA.e x2
  have x := x1.trans x2
  have gA : h2.get bA = some (vlC v) := oA2.1
  have gB : h2.get bB = some (vlC u) := oB.1
  have l5 : ∀ v : Vl, (vlC v).length = 5 := fun _ => rfl
  simp [gA, gB, l5, List.take_of_length_le (Nat.le_of_eq (l5 _))]
  refine Tells.bind (ref_CmpValue hX v u hv hu h2) ?_
  rintro _ h3 ⟨rfl, x3⟩
  cases e : (cmpV v u).2 with
  | true =>
    simp
    exact Tells.ok (hQ _ _ ⟨by simp [e], x.trans x3⟩)
  | false =>
    simp
    exact Tells.ok (hQ _ _ ⟨by simp [e], x.trans x3⟩)

end
end Go.Proofs.Ytbkfamdkdjajjaa

/-! precentorref1's prefix, TakesValue, Takes: they tell a bool. -/
namespace Go.Proofs.Ytbkfamdkdjajjaa
open Go.Ab

theorem vlZ_in : In64 vlZ.n := ⟨by decide, by decide⟩
theorem FedP.in64 {p : Prd} (h : FedP p) : In64 p.v.n ∧ In64 p.w.n ∧ (∀ x, x ∈ p.set → In64 x.n) := by
  obtain ⟨_, h | h | h | h | h⟩ := h
  · obtain ⟨_, e1, e2, e3⟩ := h
    rw [e1, e2, e3]
    exact ⟨vlZ_in, vlZ_in, by simp⟩
  · obtain ⟨_, ⟨s, _, e1⟩, e2, e3⟩ := h
    rw [e1, e2, e3]
    exact ⟨⟨by simp, by simp⟩, vlZ_in, by simp⟩
  · obtain ⟨_, e1, e2, _, _, e3⟩ := h
    rw [e1, e2]
    exact ⟨vlZ_in, vlZ_in, fun x hx => fed_in (e3 x hx)⟩
  · obtain ⟨_, e1, e2, e3⟩ := h
    rw [e3]
    exact ⟨fed_in e1, fed_in e2, by simp⟩
  · obtain ⟨_, _, e1, e2, e3⟩ := h
    rw [e2, e3]
    exact ⟨fed_in e1, vlZ_in, by simp⟩
theorem FedP.test {p : Prd} (h : FedP p) : p.test = 1 ∨ p.test = 2 ∨ p.test = 3 ∨ p.test = 4 ∨ p.test = 5 ∨ p.test = 6 ∨ p.test = 7 ∨ p.test = 8 ∨ p.test = 9 ∨ p.test = 10 := by
  obtain ⟨_, h | h | h | h | h⟩ := h <;> omega

section
variable {X : XTab}

theorem ref_prefix (hX : OnlyKnown X) (s p : ByteArray) (h : Heap) : Tells (fun q => acallX Try.prog X q F_precentorref1_prefix [.str s, .str p] h) fun r h' => (∃ b, r = .bool b) ∧ Ext [] h h' := by
  refine R_precentorref1_prefix _ _ (hX _ _ rfl) ?_
  refine Tells.prot fun Q' hQ => ?_
  unfold S_precentorref1_prefix
  by_cases c : p.size ≤ s.size
  · have c' : (p.size : Int) ≤ s.size := by omega
    have e : sltR (.str s) none (some (I p.size)) = some (.str (s.extract 0 p.size)) := by
      simp [sltR, aBoundO, aBound, c']
    simp [lenS, c, c', e]
    exact Tells.ok (hQ _ _ ⟨⟨_, rfl⟩, .refl⟩)
  · have c' : ¬ (p.size : Int) ≤ s.size := by omega
    simp [lenS, c, c']
    exact Tells.ok (hQ _ _ ⟨⟨_, rfl⟩, .refl⟩)

theorem ref_TakesValue (hX : OnlyKnown X) {h : Heap} {c : List AVal} {p : Prd} (r : prR.rep h c p) (hp : FedP p) (v : Vl) (hv : In64 v.n) :
    Tells (fun q => acallX Try.prog X q F_precentorref1_TakesValue [.agg c, .agg (vlC v)] h) fun r h' => (∃ b, r = .bool b) ∧ Ext [] h h' := by
  obtain ⟨sv, rfl, os, zs⟩ := r
  refine R_precentorref1_TakesValue _ _ (hX _ _ rfl) ?_
  refine Tells.prot fun Q' hQ => ?_
  unfold S_precentorref1_TakesValue
  obtain ⟨i1, i2, i3⟩ := hp.in64
  simp
  refine Tells.box (cs := prC p sv) (by simp [prC, vlC, AVal.known, os.known]) (by simp [AVal.cells]) fun h1 b1 o1 x1 l1 => ?_
  try simp
  refine Tells.box (cs := vlC v) (by rfl) (by rfl) fun h2 b2 o2 x2 l2 => ?_
  have o12 := o1.e x2
  have X2 := x1.trans x2
  have os2 := os.ext X2
  have cell : ∀ {g : Heap} {x : AVal} {c : List AVal}, True := trivial
  simp [o12.1, prC, vlC]
  refine Tells.bind (ref_RightPred hX (c := prC p sv) (x := p) ⟨sv, rfl, os2, fun _ _ => trivial⟩ ⟨by have := hp.set_le; omega, (names4_word _ hp.1).2⟩) ?_
  rintro _ h3 ⟨rfl, x3⟩
  have X3 := X2.trans x3
  have o13 := o12.e x3
  have o23 := o2.e x3
  have os3 := os2.ext x3
  cases hr : rightP p with
  | false =>
    simp [J_precentorref1_TakesValue_0]
    exact Tells.ok (hQ _ _ ⟨⟨_, rfl⟩, X3⟩)
  | true =>
    simp [J_precentorref1_TakesValue_0, o13.1, o23.1, prC, vlC]
    refine Tells.bind (ref_CmpValue hX v p.v hv i1 h3) ?_
    rintro _ h4 ⟨rfl, x4⟩
    have X4 := X3.trans x4
    have o14 := o13.e x4
    have o24 := o23.e x4
    have os4 := os3.ext x4
    generalize cmpV v p.v = cv
    obtain ⟨cc, ok⟩ := cv
    have fin : ∀ (b : Bool) (g : Heap), Ext [] h g → Q' (.bool b) g := fun b g x => hQ _ _ ⟨⟨b, rfl⟩, x⟩
    simp [extR, o14.1, prC, vlC]
    rcases hp.test with ht | ht | ht | ht | ht | ht | ht | ht | ht | ht
    · simp [ht]
      exact Tells.ok (fin _ _ X4)
    · cases ok <;> simp [ht] <;> exact Tells.ok (fin _ _ X4)
    · cases ok <;> simp [ht] <;> exact Tells.ok (fin _ _ X4)
    · cases ok <;> simp [ht] <;> exact Tells.ok (fin _ _ X4)
    · cases ok <;> simp [ht] <;> exact Tells.ok (fin _ _ X4)
    · cases ok <;> simp [ht] <;> exact Tells.ok (fin _ _ X4)
    · cases ok <;> simp [ht] <;> exact Tells.ok (fin _ _ X4)
    · simp [ht, o14.1, o24.1, prC, vlC]
      refine Tells.bind (ref_CmpValue hX v p.w hv i2 h4) ?_
      rintro _ h5 ⟨rfl, x5⟩
      generalize cmpV v p.w = cw
      obtain ⟨cd, ok2⟩ := cw
      have X5 := X4.trans x5
      by_cases c0 : (0 : Int) ≤ cc
      · cases ok <;> cases ok2 <;> simp [c0] <;> exact Tells.ok (fin _ _ X5)
      · cases ok <;> cases ok2 <;> simp [c0] <;> exact Tells.ok (fin _ _ X5)
    · by_cases c3 : v.k = 3
      · simp [ht, o14.1, o24.1, prC, vlC, c3]
        refine Tells.bind (ref_prefix hX v.s p.v.s h4) ?_
        rintro _ h5 ⟨⟨b, rfl⟩, x5⟩
        try simp
        exact Tells.ok (fin _ _ (X4.trans x5))
      · simp [ht, o14.1, o24.1, prC, vlC, c3, beq_eq_false_iff_ne.2 c3]
        exact Tells.ok (fin _ _ X4)
    · simp [ht, J_precentorref1_TakesValue_1]
      refine Tells.bind (Tells.loop (fun n t g => ∃ i : Nat, t 2 = .ptr b1 0 ∧ t 3 = .ptr b2 0 ∧ t 9 = I i ∧ i + n = p.set.length ∧ Ob g b1 (prC p sv) ∧ Ob g b2 (vlC v) ∧ Sl vlR g sv p.set ∧ Ext [] h g)
        (Q := fun q g => Ext [] h g ∧ (q.1 = .exit 1 ∨ (q.1 = .ret ∧ q.2 4 = .bool true))) ?_ p.set.length _ _ ⟨0, by simp, by simp, by simp, by omega, o14, o24, os4, X4⟩) ?_
      · rintro n t g ⟨i, t2, t3, t9, hi, o1g, o2g, osg, xg⟩
        refine Tells.prot fun Q2 hQ2 => ?_
        unfold L_precentorref1_TakesValue_3
        have o1g' := o1g.1
        simp only [prC, vlC] at o1g'
        simp [t9, t2, o1g', osg.len]
        refine Tells.cb (fun hc => ?_) (fun hc => ?_)
        · simp at hc
          obtain ⟨y, hy⟩ : ∃ y, p.set[i]? = some y := ⟨_, List.getElem?_eq_getElem hc⟩
          obtain ⟨bb, pp, B, c, q1, q2, rfl⟩ := osg.at (n := 5) rfl (i := (i : Int)) (by omega) (by simpa using hy)
          have q4 := q2.lda (n := 5) rfl
          have hs4 := hp.set_le
          have w : IntKind.i64.wrap ((i : Int) + 1) = i + 1 := wrap_id (by omega) (by omega)
          have q4b : (if pp + 5 ≤ B.length then some (AVal.agg (List.take 5 (List.drop pp B))) else none) = some (.agg (vlC y)) := by simpa [q2.get] using q4
          have o2g' := o2g.1
          simp only [vlC] at o2g'
          simp [J_precentorref1_TakesValue_4, t2, t3, t9, o1g', o2g', q1, q2.get, q4b]
          refine Tells.cbE (ref_Is hX v y hv (i3 y (List.mem_of_getElem? hy)) g) ?_
          rintro _ g2 ⟨rfl, x2⟩
          generalize ((cmpV v y).2 && (cmpV v y).1 == 0) = bo
          cases bo with
          | true =>
            try simp
            exact Tells.ok (hQ2 _ _ (.inr ⟨by simp, xg.trans x2, .inr ⟨rfl, by simp⟩⟩))
          | false =>
            simp [J_precentorref1_TakesValue_5, t9, w]
            exact Tells.ok (hQ2 _ _ (.inl ⟨rfl, n - 1, by omega, i + 1, by simp [t2], by simp [t3], by simp, by omega, o1g.e x2, o2g.e x2, osg.ext x2, xg.trans x2⟩))
        · exact Tells.ok (hQ2 _ _ (.inr ⟨by simp, xg, .inl rfl⟩))
      · rintro ⟨ex, t⟩ g ⟨xg, rfl | ⟨rfl, t4⟩⟩
        · simp [J_precentorref1_TakesValue_2]
          exact Tells.ok (fin _ _ xg)
        · simp only at t4
          simp [t4]
          exact Tells.ok (fin _ _ xg)

theorem ref_Takes (hX : OnlyKnown X) {h : Heap} {v av : AVal} {l : List Prd} {ats : List Att} (o : Sl prR h v l) (hl : l.length ≤ 1000) (hp : ∀ p, p ∈ l → FedP p) (oa : Sl attrR h av ats) (ha : ats.length ≤ 100) (hv : ∀ a, a ∈ ats → FedV a.2) :
    Tells (fun q => acallX Try.prog X q F_precentorref1_Takes [v, av] h) fun r h' => (∃ b, r = .bool b) ∧ Ext [] h h' := by
  refine R_precentorref1_Takes _ _ (hX _ _ rfl) ?_
  refine Tells.prot fun Q' hQ => ?_
  unfold S_precentorref1_Takes
  try simp
  refine Tells.bind (Tells.loop (fun n t g => ∃ i : Nat, t 0 = v ∧ t 1 = av ∧ t 5 = I i ∧ i + n = l.length ∧ Ext [] h g)
    (Q := fun q g => Ext [] h g ∧ (q.1 = .exit 0 ∨ (q.1 = .ret ∧ q.2 4 = .bool false))) ?_ l.length _ _ ⟨0, by simp, by simp, by simp, by omega, .refl⟩) ?_
  · rintro n t g ⟨i, t0, t1, t5, hi, xg⟩
    refine Tells.prot fun Q2 hQ2 => ?_
    unfold L_precentorref1_Takes_1
    have og := o.ext xg
    have oag := oa.ext xg
    simp [t0, t5, og.len]
    refine Tells.cb (fun hc => ?_) (fun hc => ?_)
    · simp at hc
      obtain ⟨p, hp1⟩ : ∃ p, l[i]? = some p := ⟨_, List.getElem?_eq_getElem hc⟩
      have hpm := hp p (List.mem_of_getElem? hp1)
      obtain ⟨bb, pp, B, c, q1, q2, q3⟩ := og.at (n := 13) rfl (i := (i : Int)) (by omega) (by simpa using hp1)
      obtain ⟨sv, rfl, os, zs⟩ := q3
      have q40 := q2.cell0 (by simp [prC])
      simp [prC] at q40
      have w : IntKind.i64.wrap ((i : Int) + 1) = i + 1 := wrap_id (by omega) (by omega)
      simp [J_precentorref1_Takes_2, t0, t1, t5, q1, q2.get, q40]
      refine Tells.bind (ref_Get hX oag ha p.name) ?_
      rintro r g1 ⟨x1, hr⟩
      obtain ⟨u, b, rfl, hu⟩ : ∃ u b, r = .tup [.agg (vlC u), .bool b] ∧ In64 u.n := by
        rcases hr with ⟨a, e, rfl⟩ | ⟨e, rfl⟩
        · exact ⟨_, _, rfl, fed_in (hv a (List.mem_of_find?_eq_some e))⟩
        · exact ⟨vl0, _, rfl, ⟨by decide, by decide⟩⟩
      have X1 := xg.trans x1
      have og1 := og.ext x1
      have bad : ∀ (t2 : T) (g2 : Heap), t2 4 = .bool false → Ext [] h g2 → Q2 (.ret, t2) g2 := fun t2 g2 a X => hQ2 _ _ (.inr ⟨by simp, X, .inr ⟨rfl, a⟩⟩)
      simp [extR]
      refine Tells.newSt (ds := vlC u) (by rfl) (by rfl) (by rfl) (by rfl) fun g2 b2 o2 x2 l2 => ?_
      have X2 := X1.trans x2
      cases b with
      | false =>
        try simp
        exact Tells.ok (bad _ _ (by simp) X2)
      | true =>
        obtain ⟨bb2, pp2, B2, c2, r1, r2, r3⟩ := (og1.ext x2).at (n := 13) rfl (i := (i : Int)) (by omega) (by simpa using hp1)
        have r4 := r2.lda (n := 13) (prR.len r3)
        have r4b : (if pp2 + 13 ≤ B2.length then some (AVal.agg (List.take 13 (List.drop pp2 B2))) else none) = some (.agg c2) := by simpa [r2.get] using r4
        have o2' := o2.1
        simp only [vlC] at o2'
        cases q1.symm.trans r1
        simp [q1, r2.get, r4b, o2']
        refine Tells.cbE (ref_TakesValue hX r3 hpm u hu) ?_
        rintro _ g3 ⟨⟨b, rfl⟩, x3⟩
        have X3 := X2.trans x3
        cases b with
        | false =>
          try simp
          exact Tells.ok (bad _ _ (by simp) X3)
        | true =>
          simp [J_precentorref1_Takes_3, t5, w]
          exact Tells.ok (hQ2 _ _ (.inl ⟨rfl, n - 1, by omega, i + 1, by simp [t0], by simp [t1], by simp, by omega, X3⟩))
    · exact Tells.ok (hQ2 _ _ (.inr ⟨by simp, xg, .inl rfl⟩))
  · rintro ⟨ex, t⟩ g ⟨xg, rfl | ⟨rfl, t4⟩⟩
    · simp [J_precentorref1_Takes_0]
      exact Tells.ok (hQ _ _ ⟨⟨_, rfl⟩, xg⟩)
    · simp only at t4
      simp [t4]
      exact Tells.ok (hQ _ _ ⟨⟨_, rfl⟩, xg⟩)
end
end Go.Proofs.Ytbkfamdkdjajjaa

/-! precentorref9.Put: what it tells is what was handed in, or a row of its own. -/
namespace Go.Proofs.Ytbkfamdkdjajjaa
open Go.Ab

section
variable {X : XTab}
theorem ref_PutW (hX : OnlyKnown X) {h : Heap} {v : AVal} {xs : List Int} (o : Sl intR h v xs) (hl : xs.length < 2 ^ 30) (p : Int) :
    Tells (fun q => acallX Try.prog X q F_precentorref9_Put [v, I p] h) fun a h' => Sl intR h' a (putL xs p) ∧ (a = v ∨ Wr h h' a) ∧ Ext [] h h' := by
  refine R_precentorref9_Put _ _ (hX _ _ rfl) ?_
  refine Tells.prot fun Q' hQ => ?_
  unfold S_precentorref9_Put
  simp
  refine Tells.bind (ref_In hX o (by omega) p) ?_
  rintro _ h ⟨rfl, rfl⟩
  cases hin : xs.any (· == p) with
  | true =>
    simp
    refine Tells.ok (hQ _ _ ⟨?_, .inl rfl, .refl⟩)
    unfold putL
    rw [if_pos hin]
    exact o
  | false =>
    have hp : putL xs p = xs.takeWhile (fun x => decide (x < p)) ++ [p] ++ xs.filter (fun x => decide (p < x)) := by
      unfold putL
      rw [if_neg (by rw [hin]; simp)]
    simp [J_precentorref9_Put_0]
    refine Tells.bind (Tells.loop (fun n t g => ∃ i : Nat, t 0 = v ∧ t 1 = I p ∧ t 6 = I i ∧ i + n = xs.length ∧ Gl intR h g (t 5) (xs.take i) ∧ Wr h g (t 5) ∧ Ext [] h g ∧ xs.takeWhile (fun x => decide (x < p)) = xs.take i ++ (xs.drop i).takeWhile (fun x => decide (x < p)))
      (Q := fun r g => r.1 = .exit 0 ∧ r.2 0 = v ∧ r.2 1 = I p ∧ Gl intR h g (r.2 5) (xs.takeWhile (fun x => decide (x < p))) ∧ Wr h g (r.2 5) ∧ Ext [] h g) ?_ xs.length _ _ ?_) ?_
    · rintro n t g ⟨i, t0, t1, t6, hi, go, wr, x, htw⟩
      refine Tells.prot fun Q2 hQ2 => ?_
      have og := o.ext x
      unfold L_precentorref9_Put_6
      simp [t6, t0, og.len]
      by_cases hc : i < xs.length
      · obtain ⟨y, hdi⟩ : ∃ d, xs[i]? = some d := ⟨_, List.getElem?_eq_getElem hc⟩
        obtain ⟨b, pp, B, q1, q2, q3⟩ := og.atI hdi
        have w : IntKind.i64.wrap ((i : Int) + 1) = i + 1 := wrap_id (by omega) (by omega)
        rw [tw_at hdi] at htw
        by_cases hy : y < p
        · rw [if_pos (by simpa using hy)] at htw
          simp [hc, t0, t6, q1, q2, q3, t1, hy, J_precentorref9_Put_7]
          refine Tells.app1W go wr (by rfl) (by rfl) (show intR.rep g [I y] y from rfl) (by rfl) (by rfl) (by simp; omega) (by decide) x.next fun s6 h6 g6 w6 x6 y6 z6 => ?_
          simp [J_precentorref9_Put_8, t6, w]
          have htk : xs.take (i + 1) = xs.take i ++ [y] := by rw [List.take_add_one, hdi]; rfl
          exact Tells.ok (hQ2 _ _ (.inl ⟨rfl, n - 1, by omega, i + 1, by simp [t0], by simp [t1], by simp, by omega, by rw [htk]; simpa using g6, by simpa using w6, y6 [] x, by rw [htw, htk]; simp⟩))
        · rw [if_neg (by simpa using hy)] at htw
          simp [hc, t0, t6, q1, q2, q3, t1, hy]
          exact Tells.ok (hQ2 _ _ (.inr ⟨by simp, rfl, by simp [t0], by simp [t1], by rw [htw]; simpa using go, by simpa using wr, x⟩))
      · simp [hc]
        rw [List.drop_eq_nil_of_le (by omega)] at htw
        exact Tells.ok (hQ2 _ _ (.inr ⟨by simp, rfl, by simp [t0], by simp [t1], by rw [htw]; simpa using go, by simpa using wr, x⟩))
    · exact ⟨0, by simp, by simp, by simp, by omega, by simpa using Gl.nil, fun b hb => by simp [AVal.blks] at hb, .refl, by simp⟩
    · rintro ⟨ex, t⟩ g ⟨rfl, t0, t1, go, wr, x⟩
      simp only at t0 t1 go wr
      have hle : (xs.takeWhile (fun x => decide (x < p))).length ≤ xs.length := (List.takeWhile_prefix _).length_le
      generalize xs.takeWhile (fun x => decide (x < p)) = ys at go hp hle
      simp [J_precentorref9_Put_1, t1]
      refine Tells.app1W go wr (by rfl) (by rfl) (show intR.rep g [I p] p from rfl) (by rfl) (by rfl) (by omega) (by decide) x.next fun s6 h6 g6 w6 x6 y6 z6 => ?_
      have xg6 := y6 [] x
      try simp
      refine Tells.bind (Tells.loop (fun n t g => ∃ i : Nat, t 0 = v ∧ t 1 = I p ∧ t 7 = I i ∧ i + n = xs.length ∧ Gl intR h g (t 5) (ys ++ [p] ++ (xs.take i).filter (fun x => decide (p < x))) ∧ Wr h g (t 5) ∧ Ext [] h g)
        (Q := fun r g => r.1 = .exit 2 ∧ Gl intR h g (r.2 5) (ys ++ [p] ++ xs.filter (fun x => decide (p < x))) ∧ Wr h g (r.2 5) ∧ Ext [] h g) ?_ xs.length _ _ ?_) ?_
      · rintro n t g ⟨i, t0, t1, t7, hi, go, wr, x⟩
        refine Tells.prot fun Q2 hQ2 => ?_
        have og := o.ext x
        unfold L_precentorref9_Put_3
        simp [t7, t0, og.len]
        refine Tells.cb (fun hc => ?_) (fun hc => ?_)
        · simp at hc
          obtain ⟨y, hdi⟩ : ∃ d, xs[i]? = some d := ⟨_, List.getElem?_eq_getElem hc⟩
          obtain ⟨b, pp, B, q1, q2, q3⟩ := og.atI hdi
          have w : IntKind.i64.wrap ((i : Int) + 1) = i + 1 := wrap_id (by omega) (by omega)
          have hfl : ((xs.take i).filter (fun x => decide (p < x))).length ≤ i := Nat.le_trans (List.length_filter_le _ _) (by simp; omega)
          have htk : (xs.take (i + 1)).filter (fun x => decide (p < x)) = (xs.take i).filter (fun x => decide (p < x)) ++ if p < y then [y] else [] := by
            rw [List.take_add_one, hdi]; simp [List.filter_append, List.filter_cons]
          by_cases hy : p < y
          · rw [if_pos hy] at htk
            simp [J_precentorref9_Put_4, t0, t7, q1, q2, q3, t1, hy]
            refine Tells.app1W go wr (by rfl) (by rfl) (show intR.rep g [I y] y from rfl) (by rfl) (by rfl) (by simp only [List.length_append, List.length_singleton]; omega) (by decide) x.next fun s8 h8 g8 w8 x8 y8 z8 => ?_
            simp [J_precentorref9_Put_5, t7, w]
            exact Tells.ok (hQ2 _ _ (.inl ⟨rfl, n - 1, by omega, i + 1, by simp [t0], by simp [t1], by simp, by omega, by rw [htk]; simpa using g8, by simpa using w8, y8 [] x⟩))
          · rw [if_neg hy] at htk
            simp [J_precentorref9_Put_4, t0, t7, q1, q2, q3, t1, hy, J_precentorref9_Put_5, w]
            exact Tells.ok (hQ2 _ _ (.inl ⟨rfl, n - 1, by omega, i + 1, by simp [t0], by simp [t1], by simp, by omega, by rw [htk]; simpa using go, by simpa using wr, x⟩))
        · simp at hc
          rw [List.take_of_length_le (by omega)] at go
          exact Tells.ok (hQ2 _ _ (.inr ⟨by simp, rfl, by simpa using go, by simpa using wr, x⟩))
      · exact ⟨0, by simp [t0], by simp [t1], by simp, by omega, by simpa using g6, by simpa using w6, xg6⟩
      · rintro ⟨ex, t⟩ g ⟨rfl, go, wr, x⟩
        simp only at go wr
        simp [J_precentorref9_Put_2]
        exact Tells.ok (hQ _ _ ⟨by rw [hp]; exact go.1, .inr (by simpa using wr), x⟩)

end
end Go.Proofs.Ytbkfamdkdjajjaa

/-! Put, of rising rows (printed by mk14.py). -/
namespace Go.Proofs.Ytbkfamdkdjajjaa
open Go.Ab

section
variable {X : XTab}

def insI (n : Int) : List Int → List Int
  | [] => [n]
  | x :: r => if x < n then x :: insI n r else if x = n then x :: r else n :: x :: r

theorem mem_insI {n y : Int} : ∀ {l : List Int}, y ∈ insI n l → y = n ∨ y ∈ l
  | [], h => by simp [insI] at h; exact .inl h
  | x :: r, h => by
    unfold insI at h
    split at h
    · rcases List.mem_cons.1 h with q | q
      · exact .inr (by simp [q])
      · rcases mem_insI q with k | k
        · exact .inl k
        · exact .inr (by simp [k])
    · split at h
      · exact .inr h
      · rcases List.mem_cons.1 h with q | q
        · exact .inl q
        · exact .inr q

theorem insI_sorted {n : Int} : ∀ {l : List Int}, l.Pairwise (· < ·) → (insI n l).Pairwise (· < ·)
  | [], _ => by simp [insI]
  | x :: r, h => by
    obtain ⟨h1, h2⟩ := List.pairwise_cons.1 h
    unfold insI
    by_cases c : x < n
    · rw [if_pos c]
      refine List.pairwise_cons.2 ⟨fun y hy => ?_, insI_sorted h2⟩
      rcases mem_insI hy with q | q
      · omega
      · exact h1 y q
    · rw [if_neg c]
      by_cases e : x = n
      · rw [if_pos e]; exact h
      · rw [if_neg e]
        refine List.pairwise_cons.2 ⟨fun y hy => ?_, h⟩
        rcases List.mem_cons.1 hy with q | q
        · omega
        · have := h1 y q; omega

theorem insI_len (n : Int) : ∀ l : List Int, (insI n l).length ≤ l.length + 1
  | [] => by simp [insI]
  | x :: r => by
    have := insI_len n r
    unfold insI
    split
    · simp; omega
    · split <;> simp

theorem putL_insI {n : Int} : ∀ {l : List Int}, l.Pairwise (· < ·) → putL l n = insI n l
  | [], _ => by simp [putL, insI]
  | x :: r, h => by
    obtain ⟨h1, h2⟩ := List.pairwise_cons.1 h
    have ih := putL_insI (n := n) h2
    unfold insI
    by_cases c : x < n
    · rw [if_pos c, ← ih]
      have e1 : (x == n) = false := beq_eq_false_iff_ne.2 (by omega)
      have e2 : ¬ n < x := by omega
      unfold putL
      simp only [List.any_cons, e1, Bool.false_or]
      by_cases ha : r.any (· == n) = true
      · rw [if_pos ha, if_pos ha]
      · rw [if_neg ha, if_neg ha]
        simp [c, e2]
    · rw [if_neg c]
      by_cases e : x = n
      · rw [if_pos e]
        unfold putL
        rw [if_pos (by simp [e])]
      · rw [if_neg e]
        have ha : ¬ (x :: r).any (· == n) = true := by
          simp only [List.any_cons, Bool.or_eq_true, beq_iff_eq, not_or]
          refine ⟨e, fun k => ?_⟩
          obtain ⟨y, hy, ky⟩ := List.any_eq_true.1 k
          have := h1 y hy
          simp at ky
          omega
        unfold putL
        rw [if_neg ha]
        have f : (x :: r).filter (fun y => decide (n < y)) = x :: r := by
          rw [List.filter_eq_self]
          intro y hy
          rcases List.mem_cons.1 hy with q | q
          · simp; omega
          · have := h1 y q; simp; omega
        rw [f]
        simp [c]

end
end Go.Proofs.Ytbkfamdkdjajjaa

/-! precentorref9's Groups, Shared. -/
namespace Go.Proofs.Ytbkfamdkdjajjaa
open Go.Ab

/-- A group: its filter, its clients. -/
structure Gp where
  fl : List Prd
  cs : List Int
def gpZ (Z : Nat → Prop) : Rp Gp where
  n := 2
  pos := by decide
  rep := fun h cs x => ∃ fv cv, cs = [fv, cv] ∧ Sl (prZ Z) h fv x.fl ∧ (∀ c, c ∈ fv.blks → Z (h.root c)) ∧ Sl intR h cv x.cs ∧ ∀ c, c ∈ cv.blks → Z (h.root c)
  len := fun ⟨fv, cv, e, _⟩ => by rw [e]; rfl
  one := fun ⟨fv, cv, e, o, _, p, _⟩ => by rw [e]; simp [o.one, p.one]
  ext := fun ⟨fv, cv, e, o, z, p, y⟩ x => ⟨fv, cv, e, o.ext x, fun c hc => by rw [root_ext x (o.blk c hc).2]; exact z c hc, p.ext x, fun c hc => by rw [root_ext x (p.blk c hc).2]; exact y c hc⟩
def gpF : Fam Gp where
  r := gpZ
  n := 2
  hn := fun _ => rfl
  mono := fun hz ⟨fv, cv, e, o, z, p, y⟩ => ⟨fv, cv, e, Sl.fam prF o hz, fun c hc => hz _ (Nat.lt_of_le_of_lt (root_le _ c) (o.blk c hc).2) (z c hc), p, fun c hc => hz _ (Nat.lt_of_le_of_lt (root_le _ c) (p.blk c hc).2) (y c hc)⟩
  extC := fun {Z b h h' cs x} nz x' ⟨fv, cv, e, o, z, p, y⟩ => ⟨fv, cv, e, Sl.famC prF o x' nz (Apart.of fun c hc q => nz (by rw [← q]; exact z c hc)), fun c hc => by unfold Heap.root; rw [x'.cls]; exact z c hc,
    p.extC (fun q => q) x' (Apart.of fun c hc q => nz (by rw [← q]; exact y c hc)), fun c hc => by unfold Heap.root; rw [x'.cls]; exact y c hc⟩
abbrev gpR := gpZ fun _ => True

/-- What Groups tells: filters of the feed, clients of l's. -/
structure GrO (l : List Sx) (gs : List Gp) : Prop where
  n : gs.length ≤ l.length
  f : ∀ g, g ∈ gs → FedF g.fl ∧ g.cs.length ≤ l.length ∧ ∀ c, c ∈ g.cs → ∃ s, s ∈ l ∧ s.c = c

section
variable {X : XTab}

theorem ref_Groups (hX : OnlyKnown X) {h : Heap} {v : AVal} {l : List Sx} (o : Sl sxR h v l) (hl : l.length ≤ 20) (fa : ∀ s, s ∈ l → FedF s.fl ∧ 1 ≤ s.c ∧ s.c ≤ 6) :
    Tells (fun q => acallX Try.prog X q F_precentorref9_Groups [v] h) fun r h' => ∃ gs, Sl gpR h' r gs ∧ GrO l gs ∧ Ext [] h h' := by
  refine R_precentorref9_Groups _ (hX _ _ rfl) ?_
  refine Tells.prot fun Q' hQ => ?_
  unfold S_precentorref9_Groups
  try simp
  have oZ : Sl (sxZ fun q => q < h.next) h v l := o.fam sxF fun q hq _ => hq
  refine Tells.bind (Tells.loop (fun n t g => ∃ (i : Nat) (gs : List Gp), t 0 = v ∧ t 4 = I i ∧ i + n = l.length ∧ RowZ gpF 0 h g (t 3) gs ∧ gs.length ≤ i ∧ (∀ x, x ∈ gs → FedF x.fl ∧ x.cs.Pairwise (· < ·) ∧ x.cs.length ≤ i ∧ ∀ c, c ∈ x.cs → ∃ s, s ∈ l ∧ s.c = c) ∧ Ext [] h g)
    (Q := fun p g => p.1 = .exit 0 ∧ ∃ gs, Sl gpR g (p.2 3) gs ∧ GrO l gs ∧ Ext [] h g) ?_ l.length _ _ ⟨0, [], by simp, by simp, by omega, by simpa using RowZ.nil, by simp, by simp, .refl⟩) ?_
  · rintro n t g ⟨i, gs, t0, t4, hi, rz, hlen, hgs, xg⟩
    refine Tells.prot fun Q2 hQ2 => ?_
    unfold L_precentorref9_Groups_1
    have og := oZ.ext xg
    simp [t0, t4, og.len]
    refine Tells.cb (fun hc => ?_) (fun hc => ?_)
    · simp at hc
      obtain ⟨s, hs⟩ : ∃ s, l[i]? = some s := ⟨_, List.getElem?_eq_getElem hc⟩
      have hsm := List.mem_of_getElem? hs
      have w : IntKind.i64.wrap ((i : Int) + 1) = i + 1 := wrap_id (by omega) (by omega)
      generalize hv3 : t 3 = v3 at rz
      simp [J_precentorref9_Groups_2]
      refine Tells.bind (Tells.loop (fun m t g' => ∃ (k : Nat) (a : Int), t 0 = v ∧ t 3 = v3 ∧ t 4 = I i ∧ t 5 = I a ∧ -1 ≤ a ∧ a < gs.length ∧ t 6 = I k ∧ k + m = gs.length ∧ Ext [] g g')
        (Q := fun p g' => p.1 = .exit 2 ∧ ∃ a : Int, p.2 0 = v ∧ p.2 3 = v3 ∧ p.2 4 = I i ∧ p.2 5 = I a ∧ -1 ≤ a ∧ a < gs.length ∧ Ext [] g g') ?_ gs.length _ _ ⟨0, -1, by simp [t0], by simp [hv3], by simp [t4], by simp, by omega, by omega, by simp, by omega, .refl⟩) ?_
      · rintro m t g' ⟨k, a, t0, t3, t4, t5, a0, a1, t6, hk, x'⟩
        refine Tells.prot fun Q3 hQ3 => ?_
        unfold L_precentorref9_Groups_6
        have rz' := rz.e x'
        have og' := og.ext x'
        simp [t6, t3, rz'.len]
        refine Tells.cb (fun hc2 => ?_) (fun hc2 => ?_)
        · simp at hc2
          obtain ⟨y, hy⟩ : ∃ y, gs[k]? = some y := ⟨_, List.getElem?_eq_getElem hc2⟩
          have wk : IntKind.i64.wrap ((k : Int) + 1) = k + 1 := wrap_id (by omega) (by omega)
          by_cases ha : a < 0
          · obtain ⟨b1, p1, B1, c1, q1, q2, fv, cv, rfl, of_, zf, oc, zc⟩ := rz'.at (n := 2) rfl hy
            obtain ⟨b2, p2, B2, c2, r1, r2, fw, rfl, ow, zw⟩ := og'.at (n := 4) rfl (i := (i : Int)) (by omega) (by simpa using hs)
            have q40 := q2.cell0 (by simp)
            have r43 := r2.cell (k := 3) (by simp [sxC])
            simp [sxC] at q40 r43
            simp [J_precentorref9_Groups_7, t5, ha, t3, t6, t0, t4, q1, q2.get, q40, r1, r2.get, r43]
            have szf : ∀ x : List Prd, FedF x → x.length ≤ 1000 ∧ ∀ p, p ∈ x → SzP p := fun x hx => ⟨hx.szn.1, fun p hp => (hx.szn.2 p hp).1⟩
            have of1 : Sl prR g' fv y.fl := of_.fam prF fun _ _ _ => trivial
            have ow1 : Sl prR g' fw s.fl := ow.fam prF fun _ _ _ => trivial
            have fy := (hgs y (List.mem_of_getElem? hy)).1
            refine Tells.cbE (ref_SameFilter hX of1 ow1 (szf _ fy).1 (szf _ fy).2 (szf _ (fa s hsm).1).2) ?_
            rintro _ g2 ⟨rfl, x2⟩
            have X2 := x'.trans x2
            cases sameL samePr y.fl s.fl with
            | true =>
              simp [J_precentorref9_Groups_8, t6, wk]
              exact Tells.ok (hQ3 _ _ (.inl ⟨rfl, m - 1, by omega, k + 1, k, by simp [t0], by simp [t3], by simp [t4], by simp, by omega, by omega, by simp, by omega, X2⟩))
            | false =>
              simp [J_precentorref9_Groups_8, t6, wk]
              exact Tells.ok (hQ3 _ _ (.inl ⟨rfl, m - 1, by omega, k + 1, a, by simp [t0], by simp [t3], by simp [t4], by simp [t5], by omega, by omega, by simp, by omega, X2⟩))
          · simp [J_precentorref9_Groups_7, t5, ha, J_precentorref9_Groups_8, t6, wk]
            exact Tells.ok (hQ3 _ _ (.inl ⟨rfl, m - 1, by omega, k + 1, a, by simp [t0], by simp [t3], by simp [t4], by simp [t5], by omega, by omega, by simp, by omega, x'⟩))
        · exact Tells.ok (hQ3 _ _ (.inr ⟨by simp, rfl, a, by simp [t0], by simp [t3], by simp [t4], by simp [t5], a0, a1, x'⟩))
      · rintro ⟨ex, t⟩ g' ⟨rfl, a, t0, t3, t4, t5, a0, a1, x'⟩
        simp only at t0 t3 t4 t5
        have X' := xg.trans x'
        have rz' := rz.e x'
        have og' := og.ext x'
        have nx := X'.next
        -- the client is put into the a-th
        have fin : ∀ (t : T) (g2 : Heap) (gs2 : List Gp) (j : Nat) (y : Gp), t 0 = v → t 4 = I i → t 5 = I j → RowZ gpF 0 h g2 (t 3) gs2 → gs2.length ≤ i + 1 → gs2[j]? = some y → (∀ x, x ∈ gs2 → FedF x.fl ∧ x.cs.Pairwise (· < ·) ∧ x.cs.length ≤ i ∧ ∀ c, c ∈ x.cs → ∃ s, s ∈ l ∧ s.c = c) → Ext [] h g2 →
            Tells (fun m => J_precentorref9_Groups_5 Try.prog (acallX Try.prog X m) m (blkK 1 (sqK (J_precentorref9_Groups_3 Try.prog (acallX Try.prog X m) m okK) okK)) t g2) Q2 := by
          intro t g2 gs2 j y t0 t4 t5 rz2 hl2 hy hgs2 X2
          generalize hv3 : t 3 = v3 at rz2
          obtain ⟨b1, p1, B1, c1, q1, q2, fv, cv, rfl, of_, zf, oc, zc⟩ := rz2.at (n := 2) rfl hy
          obtain ⟨b2, p2, B2, c2, r1, r2, fw, rfl, ow, zw⟩ := (oZ.ext X2).at (n := 4) rfl (i := (i : Int)) (by omega) (by simpa using hs)
          have q41 := q2.cell (k := 1) (by simp)
          have r40 := r2.cell0 (by simp [sxC])
          simp [sxC] at q41 r40
          simp [J_precentorref9_Groups_5, t0, t4, t5, hv3, q1, q2.get, q41, r1, r2.get, r40]
          obtain ⟨m1, m2, m3, m4⟩ := hgs2 y (List.mem_of_getElem? hy)
          refine Tells.cbE (ref_PutW hX oc (by omega) s.c) ?_
          rintro av g3 ⟨oa, wa, x3⟩
          rw [putL_insI m2] at oa
          have X3 := X2.trans x3
          have rz3 := rz2.e x3
          obtain ⟨b5, p5, B5, c5, v5, k1, k2, k3, k4, k5, k6, ⟨fv5, cv5, rfl, of5, zf5, oc5, zc5⟩, put⟩ := rz3.set1 (n := 2) rfl hy
          have e5 := q1.symm.trans k5
          cases e5
          have za : ∀ c, c ∈ av.blks → ¬ g3.isRoot v3 (g3.root c) ∧ 0 ≤ g3.root c := fun c hcb => ⟨by
            rintro ⟨d, hd, e⟩
            have hd2 := (rz2.1 d hd).2.2
            rw [root_ext x3 hd2] at e
            rcases wa with rfl | wa
            · rw [root_ext x3 (oc.blk c hcb).2] at e
              exact (zc c hcb).1 ⟨d, hd, e⟩
            · have := (wa c hcb).1
              have := root_le g2 d
              omega, Nat.zero_le _⟩
          obtain ⟨g4, s1, s2, s3⟩ := put 1 av { y with cs := insI s.c y.cs } (by decide) oa.cells oa.one ⟨fv5, av, by simp, of5, zf5, oa, za⟩
          simp [s1, J_precentorref9_Groups_3, t4, w]
          · have k4 : h.next ≤ g3.root b1 := k3
            refine Tells.ok (hQ2 _ _ (.inl ⟨rfl, n - 1, by omega, i + 1, gs2.set j { y with cs := insI s.c y.cs }, by simp [t0], by simp, by omega, by simpa [hv3] using s3, by simpa using hl2, fun x hx => ?_, X3.extC s2 k4⟩))
            rcases List.mem_or_eq_of_mem_set hx with q | q
            · obtain ⟨z1, z2, z3, z4⟩ := hgs2 x q
              exact ⟨z1, z2, by omega, z4⟩
            · subst q
              have := insI_len s.c y.cs
              refine ⟨m1, insI_sorted m2, by simp; omega, fun c hc => ?_⟩
              rcases mem_insI hc with q | q
              · exact ⟨s, hsm, q.symm⟩
              · exact m4 c q
        by_cases ha : a < 0
        · obtain ⟨b2, p2, B2, c2, r1, r2, fw, rfl, ow, zw⟩ := og'.at (n := 4) rfl (i := (i : Int)) (by omega) (by simpa using hs)
          have r43 := r2.cell (k := 3) (by simp [sxC])
          simp [sxC] at r43
          have lr := rz'.len
          simp [J_precentorref9_Groups_4, t5, ha, t3, t0, t4, lr, r1, r2.get, r43, bldR, fillR, splice, ow.known, ow.cells]
          have zw2 : ∀ c, c ∈ fw.blks → ¬ g'.isRoot v3 (g'.root c) ∧ 0 ≤ g'.root c := fun c hcb => ⟨fun ⟨d, hd, e⟩ => by
            have := zw c hcb
            have := (rz'.1 d hd).1
            omega, Nat.zero_le _⟩
          have ow2 : Sl (prZ fun q => ¬ g'.isRoot v3 q ∧ 0 ≤ q) g' fw s.fl := ow.fam prF fun q hq z => ⟨fun ⟨d, hd, e⟩ => by
            have := (rz'.1 d hd).1
            omega, Nat.zero_le _⟩
          have hx : (gpF.r fun q => ¬ g'.isRoot v3 q ∧ 0 ≤ q).rep g' [fw, .nils] ⟨s.fl, []⟩ := ⟨fw, .nils, rfl, ow2, zw2, Sl.nil, fun c hc => by simp [AVal.blks] at hc⟩
          refine Tells.appZ rz' (by rfl) (by rfl) hx (by rfl) (by rfl) (by omega) (by decide) nx fun s6 g6 rz6 x6 y6 => ?_
          have lg : (gs ++ [(⟨s.fl, []⟩ : Gp)])[gs.length]? = some ⟨s.fl, []⟩ := by simp
          refine fin _ g6 _ gs.length _ (by simp [t0]) (by simp [t4]) (by simp) (by simpa using rz6) (by simp; omega) lg (fun x hx => ?_) (y6 [] X')
          rcases List.mem_append.1 hx with q | q
          · exact hgs x q
          · simp at q; subst q
            exact ⟨(fa s hsm).1, by simp, by simp, by simp⟩
        · obtain ⟨a, rfl⟩ : ∃ n : Nat, a = n := ⟨a.toNat, by omega⟩
          simp [J_precentorref9_Groups_4, t5, ha]
          obtain ⟨y, hy⟩ : ∃ y, gs[a]? = some y := ⟨_, List.getElem?_eq_getElem (by omega)⟩
          exact fin _ g' gs a y (by simp [t0]) (by simp [t4]) (by simp [t5]) (by simpa [t3] using rz') (by omega) hy hgs X'
    · simp at hc
      refine Tells.ok (hQ2 _ _ (.inr ⟨by simp, rfl, gs, by simpa using show Sl gpR g (t 3) gs from rz.sl, ⟨by omega, fun x hx => ?_⟩, xg⟩))
      obtain ⟨k1, _, k2, k3⟩ := hgs x hx
      exact ⟨k1, by omega, k3⟩
  · rintro ⟨ex, t⟩ g ⟨rfl, gs, sg, hg, xg⟩
    simp [J_precentorref9_Groups_0]
    exact Tells.ok (hQ _ _ ⟨gs, by simpa using sg, hg, xg⟩)

theorem gp_at {h : Heap} {v : AVal} {gs : List Gp} (o : Sl gpR h v gs) {i : Nat} {y : Gp} (hy : gs[i]? = some y) :
    ∃ b p B fv cv, ixsR 2 v (.int .i64 (i : Int)) = some (.ptr b p) ∧ h.get b = some B ∧ B[p]? = some fv ∧ B[p + 1]? = some cv ∧ Sl prR h fv y.fl ∧ Sl intR h cv y.cs := by
  obtain ⟨b1, p1, B1, c1, q1, q2, fv, cv, rfl, of_, zf, oc, zc⟩ := o.at (n := 2) rfl (i := (i : Int)) (by omega) (by simpa using hy)
  exact ⟨b1, p1, B1, fv, cv, q1, q2.get, q2.cell0 (by simp), q2.cell (k := 1) (by simp), of_, oc⟩

theorem ref_Shared (hX : OnlyKnown X) {h : Heap} {v : AVal} {gs : List Gp} (o : Sl gpR h v gs) (hl : gs.length ≤ 1000) (hc : ∀ g, g ∈ gs → g.cs.length ≤ 1000) {a b : Nat} (ha : a < gs.length) (hb : b < gs.length) :
    Tells (fun q => acallX Try.prog X q F_precentorref9_Shared [v, I a, I b] h) fun r h' => ∃ cs : List Int, Sl intR h' r cs ∧ cs.length ≤ 1000 ∧ (∀ c, c ∈ cs → ∃ g, gs[a]? = some g ∧ c ∈ g.cs) ∧ Ext [] h h' := by
  refine R_precentorref9_Shared _ _ _ (hX _ _ rfl) ?_
  refine Tells.prot fun Q' hQ => ?_
  unfold S_precentorref9_Shared
  have a1 : ¬ ((a : Int) < 0) := by omega
  have b1 : ¬ ((b : Int) < 0) := by omega
  have a2 : ¬ ((gs.length : Int) ≤ a) := by omega
  have b2 : ¬ ((gs.length : Int) ≤ b) := by omega
  have a3 : ¬ (gs.length ≤ a) := by omega
  have b3 : ¬ (gs.length ≤ b) := by omega
  obtain ⟨x, hx⟩ : ∃ x, gs[a]? = some x := ⟨_, List.getElem?_eq_getElem ha⟩
  obtain ⟨y, hy⟩ : ∃ y, gs[b]? = some y := ⟨_, List.getElem?_eq_getElem hb⟩
  have lx := hc x (List.mem_of_getElem? hx)
  have ly := hc y (List.mem_of_getElem? hy)
  simp [a1, b1, o.len, a2, b2, a3, b3, J_precentorref9_Shared_0]
  refine Tells.bind (Tells.loop (fun n t g => ∃ (i : Nat) (cs : List Int), t 0 = v ∧ t 1 = I a ∧ t 2 = I b ∧ t 8 = I i ∧ i + n = x.cs.length ∧ Sl intR g (t 7) cs ∧ cs.Pairwise (· < ·) ∧ cs.length ≤ i ∧ (∀ c, c ∈ cs → c ∈ x.cs) ∧ Ext [] h g)
    (Q := fun p g => p.1 = .exit 0 ∧ ∃ cs, Sl intR g (p.2 7) cs ∧ cs.length ≤ 1000 ∧ (∀ c, c ∈ cs → c ∈ x.cs) ∧ Ext [] h g) ?_ x.cs.length _ _ ⟨0, [], by simp, by simp, by simp, by simp, by omega, by simpa using Sl.nil, by simp, by simp, by simp, .refl⟩) ?_
  · rintro n t g ⟨i, cs, t0, t1, t2, t8, hi, sc, hs, hlen, hcs, xg⟩
    refine Tells.prot fun Q2 hQ2 => ?_
    unfold L_precentorref9_Shared_2
    have og := o.ext xg
    obtain ⟨bb, p, B, fv, cv, q1, q2, q3, q4, q5, q6⟩ := gp_at og hx
    simp [t8, t0, t1, q1, q2, q4, q6.len]
    refine Tells.cb (fun hcc => ?_) (fun hcc => ?_)
    · simp at hcc
      obtain ⟨z, hz⟩ : ∃ z, x.cs[i]? = some z := ⟨_, List.getElem?_eq_getElem hcc⟩
      obtain ⟨b5, p5, B5, k1, k2, k3⟩ := q6.atI hz
      obtain ⟨bb', p', B', fv', cv', r1, r2, r3, r4, r5, r6⟩ := gp_at og hy
      have w : IntKind.i64.wrap ((i : Int) + 1) = i + 1 := wrap_id (by omega) (by omega)
      simp [J_precentorref9_Shared_3, t8, t0, t1, t2, q1, q2, q4, r1, r2, r4, k1, k2, k3]
      refine Tells.cbE (ref_In hX r6 (by omega) z) ?_
      rintro _ g1 ⟨rfl, rfl⟩
      cases y.cs.any (· == z) with
      | true =>
        simp [t8, t0, t1, q1, q2, q4, k1, k2, k3]
        refine Tells.bind (ref_Put hX sc (by omega) z) ?_
        rintro r g2 ⟨sr, x2⟩
        rw [putL_insI hs] at sr
        simp [J_precentorref9_Shared_4, t8, w]
        have := insI_len z cs
        refine Tells.ok (hQ2 _ _ (.inl ⟨rfl, n - 1, by omega, i + 1, insI z cs, by simp [t0], by simp [t1], by simp [t2], by simp, by omega, by simpa using sr, insI_sorted hs, by omega, fun c hc => ?_, xg.trans x2⟩))
        rcases mem_insI hc with q | q
        · subst q; exact List.mem_of_getElem? hz
        · exact hcs c q
      | false =>
        simp [J_precentorref9_Shared_4, t8, w]
        exact Tells.ok (hQ2 _ _ (.inl ⟨rfl, n - 1, by omega, i + 1, cs, by simp [t0], by simp [t1], by simp [t2], by simp, by omega, by simpa using sc, hs, by omega, hcs, xg⟩))
    · exact Tells.ok (hQ2 _ _ (.inr ⟨by simp, rfl, cs, by simpa using sc, by omega, hcs, xg⟩))
  · rintro ⟨ex, t⟩ g ⟨rfl, cs, sc, hlen, hcs, xg⟩
    simp [J_precentorref9_Shared_1]
    exact Tells.ok (hQ _ _ ⟨cs, by simpa using sc, hlen, fun c hc => ⟨x, hx, hcs c hc⟩, xg⟩)
end
end Go.Proofs.Ytbkfamdkdjajjaa
