/-
  Texts of a claim, merged: ST1, ST2, SamM, HandG, FeedX, HandH, HandS, Known0, Law11a, SM1.
-/
import Derived.Test.YtooeiefgnhgbeaaM1
import Derived.Test.YtooeiefgnhgbeaaOps
import Derived.Test.YtooeiefgnhgbeaaWrE
import Derived.Test.YtooeiefgnhgbeaaCls
import Derived.Test.YtooeiefgnhgbeaaRawD
import Derived.Test.YtooeiefgnhgbeaaB2
import Derived.Test.YtooeiefgnhgbeaaSIds
import Derived.Test.YtooeiefgnhgbeaaRow0
import Derived.Test.YtooeiefgnhgbeaaABProg
import Derived.Test.YtooeiefgnhgbeaaSprecentorlaw11
set_option linter.unusedVariables false
set_option linter.unusedSimpArgs false
/-! SubsTells: the document's Apply. -/
namespace Go.Proofs.Ytooeiefgnhgbeaa
open Go.Ab

theorem setF_none {s : Sx} : ∀ {l : List Sx}, (∀ y, y ∈ l → sameK s.c s.n y = false) → setF s l = l
  | [], _ => rfl
  | x :: r, h => by
    unfold setF
    rw [if_neg (by simp [h x]), setF_none fun y hy => h y (by simp [hy])]

/-- In the middle of one change. -/
structure AI (t : T) (g g0 : Heap) (mv cv sv : AVal) (bs i k : Nat) (th : Bool) (s : Sx) : Prop where
  t0 : t 0 = mv
  t1 : t 1 = cv
  t5 : t 5 = I i
  t6 : t 6 = .ptr bs 0
  t9 : t 9 = .bool th
  t10 : t 10 = I k
  os : Ob g bs (sxC s sv)
  x : Ext [] g0 g

section
variable {X : XTab} {g0 : Heap} {t : T} {mv cv sv : AVal} {bs i : Nat} {s : Sx} {m : List Sx} {ch : List Cg} {c : Cg}

theorem ap_gone (hX : OnlyKnown X) (om : Sl sxR g0 mv m) (hm : m.length ≤ 900) (oc : Sl cgR g0 cv ch) (hc : ch[i]? = some c) (hg : c.gone = true) (ai : AI t g0 g0 mv cv sv bs i 0 false s) (t7 : t 7 = .nils) (t8 : t 8 = .bool true) :
    Tells (fun q => loopN (L_precentorref9_Apply_6 Try.prog (acallX Try.prog X q) q) q t g0) fun p g => p.1 = .exit 2 ∧ AI p.2 g g0 mv cv sv bs i m.length false s ∧ p.2 8 = .bool true ∧ Gl sxR g0 g (p.2 7) (goneL m s.c s.n) := by
  refine Tells.loop (fun n t g => ∃ k : Nat, AI t g g0 mv cv sv bs i k false s ∧ t 8 = .bool true ∧ k + n = m.length ∧ Gl sxR g0 g (t 7) (goneL (m.take k) s.c s.n)) ?_ m.length _ _ ⟨0, ai, t8, by omega, by rw [t7]; simpa [goneL] using Gl.nil⟩
  rintro n t g ⟨k, ai, t8, hk, gl⟩
  refine Tells.prot fun Q2 hQ2 => ?_
  unfold L_precentorref9_Apply_6
  have og := om.ext ai.x
  have oc' := oc.ext ai.x
  simp [ai.t10, ai.t0, og.len]
  refine Tells.cb (fun hcc => ?_) (fun hcc => ?_)
  · simp at hcc
    obtain ⟨z, hz⟩ : ∃ z, m[k]? = some z := ⟨_, List.getElem?_eq_getElem hcc⟩
    obtain ⟨b, q, B, cc, q1, q2, fv, rfl, of_, _⟩ := og.at (n := 4) rfl (i := (k : Int)) (by omega) (by simpa using hz)
    obtain ⟨b3, q3, B3, c3, r1, r2, fv3, rfl, _, _⟩ := oc'.at (n := 5) rfl (i := (i : Int)) (by omega) (by simpa using hc)
    have w : IntKind.i64.wrap ((k : Int) + 1) = k + 1 := wrap_id (by omega) (by omega)
    have q40 := q2.cell0 (by simp [sxC])
    have q42 := q2.cell (k := 2) (by simp [sxC])
    have r40 := r2.cell0 (by simp [sxC])
    simp [sxC] at q40 q42 r40
    rw [hg] at r40
    have q4b : (if q + 4 ≤ B.length then some (AVal.agg (List.take 4 (List.drop q B))) else none) = some (.agg (sxC z fv)) := by
      have := q2.lda (n := 4) rfl
      simpa [q2.get] using this
    have tk : goneL (m.take (k + 1)) s.c s.n = goneL (m.take k) s.c s.n ++ (if sameK s.c s.n z = true then [] else [z]) := by
      rw [List.take_add_one, hz]
      unfold goneL
      rw [List.filter_append]
      congr 1
      cases hq : sameK s.c s.n z <;> simp [hq]
    have len2 : (goneL (m.take k) s.c s.n).length ≤ m.length := by
      refine Nat.le_trans (List.length_filter_le _ _) ?_
      simp; omega
    have end_ : ∀ (t2 : T) (g2 : Heap), t2 0 = t 0 → t2 1 = t 1 → t2 5 = t 5 → t2 6 = t 6 → t2 8 = .bool true → t2 9 = t 9 → t2 10 = t 10 → Ob g2 bs (sxC s sv) → Ext [] g0 g2 → Gl sxR g0 g2 (t2 7) (goneL (m.take (k + 1)) s.c s.n) →
        Tells (fun q => J_precentorref9_Apply_8 Try.prog (acallX Try.prog X q) q okK t2 g2) Q2 := fun t2 g2 a0 a1 a5 a6 a8 a9 a10 o2 x2 gl2 => by
      simp [J_precentorref9_Apply_8, a10, ai.t10, w]
      exact Tells.ok (hQ2 _ _ (.inl ⟨rfl, n - 1, by omega, k + 1, ⟨by simp [a0, ai.t0], by simp [a1, ai.t1], by simp [a5, ai.t5], by simp [a6, ai.t6], by simp [a9, ai.t9], by simp, o2, x2⟩, by simp [a8], by omega, by simpa using gl2⟩))
    have app : sameK s.c s.n z = false → ∀ t2 : T, t2 0 = t 0 → t2 1 = t 1 → t2 5 = t 5 → t2 6 = t 6 → t2 7 = t 7 → t2 8 = .bool true → t2 9 = t 9 → t2 10 = t 10 →
        Tells (fun q => J_precentorref9_Apply_11 Try.prog (acallX Try.prog X q) q (blkK 3 (sqK (J_precentorref9_Apply_8 Try.prog (acallX Try.prog X q) q okK) okK)) t2 g) Q2 := fun e t2 a0 a1 a5 a6 a7 a8 a9 a10 => by
      simp [J_precentorref9_Apply_11, a7, a0, ai.t0, a10, ai.t10, q1, q2.get, q4b]
      refine Tells.app1 gl (by rfl) (by rfl) (show sxR.rep g (sxC z fv) z from ⟨fv, rfl, of_, fun _ _ => trivial⟩) (by rfl) (by rfl) (by omega) (by decide) ai.x.next fun s4 g4 gl4 x4 y4 _ => ?_
      try simp
      exact end_ _ g4 (by simp [a0, ai.t0]) (by simp [a1]) (by simp [a5]) (by simp [a6]) (by simp [a8]) (by simp [a9]) (by simp [a10, ai.t10]) (ai.os.ext x4 (gl.1.ob ai.os)) (y4 [] ai.x) (by rw [tk, e]; simpa using gl4)
    by_cases c1 : z.c = s.c
    · by_cases c2 : z.n = s.n
      · have e : sameK s.c s.n z = true := by simp [sameK, c1, c2]
        simp [J_precentorref9_Apply_7, ai.t0, ai.t10, q1, q2.get, q40, q42, ai.t6, ai.os.1, sxC, c1, c2, ai.t1, ai.t5, r1, r2.get, r40]
        exact end_ _ g (by simp [ai.t0]) (by simp [ai.t1]) (by simp [ai.t5]) (by simp [ai.t6]) (by simp [t8]) (by simp) (by simp [ai.t10]) ai.os ai.x (by rw [tk, e]; simpa using gl)
      · have e : sameK s.c s.n z = false := by simp [sameK, c2]
        simp [J_precentorref9_Apply_7, ai.t0, ai.t10, q1, q2.get, q40, q42, ai.t6, ai.os.1, sxC, c1, beq_eq_false_iff_ne.2 c2, ai.t1, ai.t5, r1, r2.get, r40, J_precentorref9_Apply_9, ai.t9, J_precentorref9_Apply_10, t8]
        exact app e _ (by simp [ai.t0]) (by simp [ai.t1]) (by simp [ai.t5]) (by simp [ai.t6]) (by simp) (by simp [t8]) (by simp [ai.t9]) (by simp [ai.t10])
    · have e : sameK s.c s.n z = false := by simp [sameK, c1]
      simp [J_precentorref9_Apply_7, ai.t0, ai.t10, q1, q2.get, q40, q42, ai.t6, ai.os.1, sxC, beq_eq_false_iff_ne.2 c1, ai.t1, ai.t5, r1, r2.get, r40, J_precentorref9_Apply_9, ai.t9, J_precentorref9_Apply_10, t8]
      exact app e _ (by simp [ai.t0]) (by simp [ai.t1]) (by simp [ai.t5]) (by simp [ai.t6]) (by simp) (by simp [t8]) (by simp [ai.t9]) (by simp [ai.t10])
  · simp at hcc
    have hkm : k = m.length := by omega
    subst hkm
    rw [List.take_length] at gl
    exact Tells.ok (hQ2 _ _ (.inr ⟨by simp, rfl, ⟨by simp [ai.t0], by simp [ai.t1], by simp [ai.t5], by simp [ai.t6], by simp [ai.t9], by simp [ai.t10], ai.os, ai.x⟩, by simp [t8], by simpa using gl⟩))

set_option maxHeartbeats 4000000 in
/-- A change that comes: there is one (th), or there is none. -/
theorem ap_come (hX : OnlyKnown X) (om : Sl sxR g0 mv m) (hm : m.length ≤ 900) (oc : Sl cgR g0 cv ch) (hc : ch[i]? = some c) (hg : c.gone = false) {th : Bool} (hth : th = m.any (sameK s.c s.n)) (rs : Sl prR g0 sv s.fl) (ai : AI t g0 g0 mv cv sv bs i 0 th s) (t7 : t 7 = .nils) (t8 : t 8 = .bool false) :
    Tells (fun q => loopN (L_precentorref9_Apply_6 Try.prog (acallX Try.prog X q) q) q t g0) fun p g => p.1 = .exit 2 ∧ AI p.2 g g0 mv cv sv bs i m.length th s ∧
      ((p.2 8 = .bool true ∧ Gl sxR g0 g (p.2 7) (comeL m s)) ∨ (p.2 8 = .bool false ∧ Gl sxR g0 g (p.2 7) m ∧ comeL m s = m ++ [s])) := by
  refine Tells.loop (fun n t g => ∃ k : Nat, AI t g g0 mv cv sv bs i k th s ∧ k + n = m.length ∧
      ((t 8 = .bool true ∧ ∃ nx : List Sx, nx.length ≤ k + 1 ∧ Gl sxR g0 g (t 7) nx ∧ nx ++ m.drop k = comeL m s) ∨
       (t 8 = .bool false ∧ Gl sxR g0 g (t 7) (m.take k) ∧ (∀ y, y ∈ m.take k → sameK s.c s.n y = false) ∧ (th = false → ∀ y, y ∈ m.take k → ltK s.c s.n y = true)))) ?_ m.length _ _ ⟨0, ai, by omega, .inr ⟨t8, by rw [t7]; simpa using Gl.nil, by simp, by simp⟩⟩
  rintro n t g ⟨k, ai, hk, st⟩
  refine Tells.prot fun Q2 hQ2 => ?_
  unfold L_precentorref9_Apply_6
  have og := om.ext ai.x
  have oc' := oc.ext ai.x
  simp [ai.t10, ai.t0, og.len]
  refine Tells.cb (fun hcc => ?_) (fun hcc => ?_)
  · simp at hcc
    obtain ⟨z, hz⟩ : ∃ z, m[k]? = some z := ⟨_, List.getElem?_eq_getElem hcc⟩
    obtain ⟨b, q, B, cc, q1, q2, fv, rfl, of_, _⟩ := og.at (n := 4) rfl (i := (k : Int)) (by omega) (by simpa using hz)
    obtain ⟨b3, q3, B3, c3, r1, r2, fv3, rfl, _, _⟩ := oc'.at (n := 5) rfl (i := (i : Int)) (by omega) (by simpa using hc)
    have w : IntKind.i64.wrap ((k : Int) + 1) = k + 1 := wrap_id (by omega) (by omega)
    have q40 := q2.cell0 (by simp [sxC])
    have q42 := q2.cell (k := 2) (by simp [sxC])
    have r40 := r2.cell0 (by simp [sxC])
    simp [sxC] at q40 q42 r40
    rw [hg] at r40
    have q4b : (if q + 4 ≤ B.length then some (AVal.agg (List.take 4 (List.drop q B))) else none) = some (.agg (sxC z fv)) := by
      have := q2.lda (n := 4) rfl
      simpa [q2.get] using this
    have dk : m.drop k = z :: m.drop (k + 1) := by rw [List.drop_eq_getElem_cons hcc, (List.getElem?_eq_some_iff.1 hz).2]
    have tk : m.take (k + 1) = m.take k ++ [z] := by rw [List.take_add_one, hz]; rfl
    have end_ : ∀ (t2 : T) (g2 : Heap), t2 0 = t 0 → t2 1 = t 1 → t2 5 = t 5 → t2 6 = t 6 → t2 9 = t 9 → t2 10 = t 10 → Ob g2 bs (sxC s sv) → Ext [] g0 g2 →
        ((t2 8 = .bool true ∧ ∃ nx : List Sx, nx.length ≤ k + 2 ∧ Gl sxR g0 g2 (t2 7) nx ∧ nx ++ m.drop (k + 1) = comeL m s) ∨
         (t2 8 = .bool false ∧ Gl sxR g0 g2 (t2 7) (m.take (k + 1)) ∧ (∀ y, y ∈ m.take (k + 1) → sameK s.c s.n y = false) ∧ (th = false → ∀ y, y ∈ m.take (k + 1) → ltK s.c s.n y = true))) →
        Tells (fun q => J_precentorref9_Apply_8 Try.prog (acallX Try.prog X q) q okK t2 g2) Q2 := fun t2 g2 a0 a1 a5 a6 a9 a10 o2 x2 st2 => by
      simp [J_precentorref9_Apply_8, a10, ai.t10, w]
      exact Tells.ok (hQ2 _ _ (.inl ⟨rfl, n - 1, by omega, k + 1, ⟨by simp [a0, ai.t0], by simp [a1, ai.t1], by simp [a5, ai.t5], by simp [a6, ai.t6], by simp [a9, ai.t9], by simp, o2, x2⟩, by omega, by simpa using st2⟩))
    -- the element itself is appended
    have app : ∀ (S : List Nat) (t2 : T) (g2 : Heap) (l2 : List Sx), Ext S g g2 → Ob g2 bs (sxC s sv) → Ext [] g0 g2 → Gl sxR g0 g2 (t2 7) l2 → l2.length ≤ 1000 → t2 0 = t 0 → t2 1 = t 1 → t2 5 = t 5 → t2 6 = t 6 → t2 9 = t 9 → t2 10 = t 10 →
        (∀ v4 g4, Gl sxR g0 g4 v4 (l2 ++ [z]) → ((t2 8 = .bool true ∧ ∃ nx : List Sx, nx.length ≤ k + 2 ∧ Gl sxR g0 g4 v4 nx ∧ nx ++ m.drop (k + 1) = comeL m s) ∨
         (t2 8 = .bool false ∧ Gl sxR g0 g4 v4 (m.take (k + 1)) ∧ (∀ y, y ∈ m.take (k + 1) → sameK s.c s.n y = false) ∧ (th = false → ∀ y, y ∈ m.take (k + 1) → ltK s.c s.n y = true)))) →
        Tells (fun q => J_precentorref9_Apply_11 Try.prog (acallX Try.prog X q) q (blkK 3 (sqK (J_precentorref9_Apply_8 Try.prog (acallX Try.prog X q) q okK) okK)) t2 g2) Q2 := fun S t2 g2 l2 xgg o2 x2 gl2 hl2 a0 a1 a5 a6 a9 a10 fin => by
      obtain ⟨b', q', B', cc', q1', q2', fv', rfl, of', _⟩ := (og.ext xgg).at (n := 4) rfl (i := (k : Int)) (by omega) (by simpa using hz)
      have q4b' : (if q' + 4 ≤ B'.length then some (AVal.agg (List.take 4 (List.drop q' B'))) else none) = some (.agg (sxC z fv')) := by
        have := q2'.lda (n := 4) rfl
        simpa [q2'.get] using this
      simp [J_precentorref9_Apply_11, a0, ai.t0, a10, ai.t10, q1', q2'.get, q4b']
      refine Tells.app1 gl2 (by rfl) (by rfl) (show sxR.rep g2 (sxC z fv') z from ⟨fv', rfl, of', fun _ _ => trivial⟩) (by rfl) (by rfl) (by omega) (by decide) x2.next fun s4 g4 gl4 x4 y4 _ => ?_
      try simp
      exact end_ _ g4 (by simp [a0, ai.t0]) (by simp [a1]) (by simp [a5]) (by simp [a6]) (by simp [a9]) (by simp [a10, ai.t10]) (o2.ext x4 (gl2.1.ob o2)) (y4 [] x2) (by simpa using fin s4 g4 gl4)
    rcases st with ⟨t8, nx, hnl, gl, hnx⟩ | ⟨t8, gl, hno, hlt⟩
    · -- it is in: the rest is appended
      have A : ∀ t2 : T, t2 0 = t 0 → t2 1 = t 1 → t2 5 = t 5 → t2 6 = t 6 → t2 7 = t 7 → t2 8 = .bool true → t2 9 = t 9 → t2 10 = t 10 →
          Tells (fun q => J_precentorref9_Apply_11 Try.prog (acallX Try.prog X q) q (blkK 3 (sqK (J_precentorref9_Apply_8 Try.prog (acallX Try.prog X q) q okK) okK)) t2 g) Q2 := fun t2 a0 a1 a5 a6 a7 a8 a9 a10 =>
        app [] t2 g nx .refl ai.os ai.x (by rw [a7]; exact gl) (by omega) a0 a1 a5 a6 a9 a10 fun v4 g4 gl4 => .inl ⟨a8, _, by simp; omega, gl4, by rw [← hnx, dk]; simp⟩
      by_cases c1 : z.c = s.c
      · by_cases c2 : z.n = s.n
        · cases th <;> simp [J_precentorref9_Apply_7, ai.t0, ai.t10, q1, q2.get, q40, q42, ai.t6, ai.os.1, sxC, c1, c2, ai.t1, ai.t5, r1, r2.get, r40, J_precentorref9_Apply_9, ai.t9, J_precentorref9_Apply_10, t8]
          all_goals exact A _ (by simp [ai.t0]) (by simp [ai.t1]) (by simp [ai.t5]) (by simp [ai.t6]) (by simp) (by simp [t8]) (by simp [ai.t9]) (by simp [ai.t10])
        · cases th <;> simp [J_precentorref9_Apply_7, ai.t0, ai.t10, q1, q2.get, q40, q42, ai.t6, ai.os.1, sxC, c1, beq_eq_false_iff_ne.2 c2, ai.t1, ai.t5, r1, r2.get, r40, J_precentorref9_Apply_9, ai.t9, J_precentorref9_Apply_10, t8]
          all_goals exact A _ (by simp [ai.t0]) (by simp [ai.t1]) (by simp [ai.t5]) (by simp [ai.t6]) (by simp) (by simp [t8]) (by simp [ai.t9]) (by simp [ai.t10])
      · cases th <;> simp [J_precentorref9_Apply_7, ai.t0, ai.t10, q1, q2.get, q40, q42, ai.t6, ai.os.1, sxC, beq_eq_false_iff_ne.2 c1, ai.t1, ai.t5, r1, r2.get, r40, J_precentorref9_Apply_9, ai.t9, J_precentorref9_Apply_10, t8]
        all_goals exact A _ (by simp [ai.t0]) (by simp [ai.t1]) (by simp [ai.t5]) (by simp [ai.t6]) (by simp) (by simp [t8]) (by simp [ai.t9]) (by simp [ai.t10])
    · have srep : ∀ g', Ext [] g0 g' → sxR.rep g' (sxC s sv) s := fun g' x' => ⟨sv, rfl, rs.ext x', fun _ _ => trivial⟩
      have l2 : (m.take k).length ≤ 900 := by simp; omega
      cases hs : sameK s.c s.n z with
      | true =>
        have kk := sameK_iff.1 hs
        have thT : th = true := by rw [hth]; exact List.any_eq_true.2 ⟨z, List.mem_of_getElem? hz, hs⟩
        subst thT
        have ecome : comeL m s = m.take k ++ s :: m.drop (k + 1) := by
          unfold comeL
          rw [if_pos hth.symm, setF_at hno hz hs, List.set_eq_take_append_cons_drop, if_pos hcc]
        simp [J_precentorref9_Apply_7, ai.t0, ai.t10, q1, q2.get, q40, q42, ai.t6, ai.os.1, sxC, kk.1, kk.2, ai.t1, ai.t5, r1, r2.get, r40, J_precentorref9_Apply_9, ai.t9, t8]
        refine Tells.app1 gl (by rfl) (by rfl) (srep g ai.x) (by rfl) (by rfl) (by omega) (by decide) ai.x.next fun s4 g4 gl4 x4 y4 _ => ?_
        try simp
        exact end_ _ g4 (by simp [ai.t0]) (by simp [ai.t1]) (by simp [ai.t5]) (by simp [ai.t6]) (by simp) (by simp [ai.t10]) (ai.os.ext x4 (gl.1.ob ai.os)) (y4 [] ai.x) (.inl ⟨by simp, m.take k ++ [s], by simp; omega, by simpa using gl4, by rw [ecome]; simp⟩)
      | false =>
        have nk := sameK_no.1 hs
        have hno2 : ∀ y, y ∈ m.take (k + 1) → sameK s.c s.n y = false := fun y hy => by
          rw [tk] at hy
          rcases List.mem_append.1 hy with u | u
          · exact hno y u
          · simp at u; subst u; exact hs
        -- no: the element is appended, s is not in yet
        have B0 : (th = false → ltK s.c s.n z = true) → ∀ t2 : T, t2 0 = t 0 → t2 1 = t 1 → t2 5 = t 5 → t2 6 = t 6 → t2 7 = t 7 → t2 8 = .bool false → t2 9 = t 9 → t2 10 = t 10 →
            Tells (fun q => J_precentorref9_Apply_11 Try.prog (acallX Try.prog X q) q (blkK 3 (sqK (J_precentorref9_Apply_8 Try.prog (acallX Try.prog X q) q okK) okK)) t2 g) Q2 := fun hz2 t2 a0 a1 a5 a6 a7 a8 a9 a10 =>
          app [] t2 g (m.take k) .refl ai.os ai.x (by rw [a7]; exact gl) (by omega) a0 a1 a5 a6 a9 a10 fun v4 g4 gl4 => .inr ⟨a8, by rw [tk]; exact gl4, hno2, fun e y hy => by
            rw [tk] at hy
            rcases List.mem_append.1 hy with u | u
            · exact hlt e y u
            · simp at u; subst u; exact hz2 e⟩
        cases th with
        | true =>
          by_cases c1 : z.c = s.c
          · have c2 : ¬ z.n = s.n := fun e => nk ⟨c1, e⟩
            simp [J_precentorref9_Apply_7, ai.t0, ai.t10, q1, q2.get, q40, q42, ai.t6, ai.os.1, sxC, c1, beq_eq_false_iff_ne.2 c2, ai.t1, ai.t5, r1, r2.get, r40, J_precentorref9_Apply_9, ai.t9, J_precentorref9_Apply_10, t8]
            exact B0 (fun e => by cases e) _ (by simp [ai.t0]) (by simp [ai.t1]) (by simp [ai.t5]) (by simp [ai.t6]) (by simp) (by simp [t8]) (by simp [ai.t9]) (by simp [ai.t10])
          · simp [J_precentorref9_Apply_7, ai.t0, ai.t10, q1, q2.get, q40, q42, ai.t6, ai.os.1, sxC, beq_eq_false_iff_ne.2 c1, ai.t1, ai.t5, r1, r2.get, r40, J_precentorref9_Apply_9, ai.t9, J_precentorref9_Apply_10, t8]
            exact B0 (fun e => by cases e) _ (by simp [ai.t0]) (by simp [ai.t1]) (by simp [ai.t5]) (by simp [ai.t6]) (by simp) (by simp [t8]) (by simp [ai.t9]) (by simp [ai.t10])
        | false =>
          have hlt := hlt rfl
          -- s comes in here
          have P0 : ltK s.c s.n z = false → ∀ (S : List Nat) (v4 : AVal) (g4 : Heap), Gl sxR g0 g4 v4 (m.take k ++ [s]) → Ext S g g4 → Ob g4 bs (sxC s sv) → Ext [] g0 g4 → ∀ t2 : T, t2 0 = t 0 → t2 1 = t 1 → t2 5 = t 5 → t2 6 = t 6 → t2 7 = v4 → t2 8 = .bool true → t2 9 = t 9 → t2 10 = t 10 →
              Tells (fun q => J_precentorref9_Apply_11 Try.prog (acallX Try.prog X q) q (blkK 3 (sqK (J_precentorref9_Apply_8 Try.prog (acallX Try.prog X q) q okK) okK)) t2 g4) Q2 := fun hz2 S v4 g4 gl4 xg4 o4 x4 t2 a0 a1 a5 a6 a7 a8 a9 a10 => by
            have ecome : comeL m s = m.take k ++ s :: m.drop k := by
              unfold comeL
              rw [if_neg (by rw [← hth]; simp)]
              exact insB_at (by omega) hlt fun x hx => by rw [hz] at hx; cases hx; exact hz2
            exact app S t2 g4 (m.take k ++ [s]) xg4 o4 x4 (by rw [a7]; exact gl4) (by simp; omega) a0 a1 a5 a6 a9 a10 fun v5 g5 gl5 => .inl ⟨a8, _, by simp; omega, gl5, by rw [ecome, dk]; simp⟩
          by_cases c1 : s.c < z.c
          · have e : ltK s.c s.n z = false := by simp [ltK]; omega
            have c1' : ¬ z.c = s.c := by omega
            simp [J_precentorref9_Apply_7, ai.t0, ai.t10, q1, q2.get, q40, q42, ai.t6, ai.os.1, sxC, beq_eq_false_iff_ne.2 c1', c1, ai.t1, ai.t5, r1, r2.get, r40, J_precentorref9_Apply_9, ai.t9, J_precentorref9_Apply_10, t8]
            refine Tells.app1 gl (by rfl) (by rfl) (srep g ai.x) (by rfl) (by rfl) (by omega) (by decide) ai.x.next fun s4 g4 gl4 x4 y4 _ => ?_
            try simp
            exact P0 e _ s4 g4 gl4 x4 (ai.os.ext x4 (gl.1.ob ai.os)) (y4 [] ai.x) _ (by simp [ai.t0]) (by simp [ai.t1]) (by simp [ai.t5]) (by simp [ai.t6]) (by simp) (by simp) (by simp [ai.t9]) (by simp [ai.t10])
          · by_cases c2 : z.c = s.c
            · by_cases c3 : s.n < z.n
              · have e : ltK s.c s.n z = false := by simp [ltK]; omega
                have c3' : ¬ z.n = s.n := by omega
                simp [J_precentorref9_Apply_7, ai.t0, ai.t10, q1, q2.get, q40, q42, ai.t6, ai.os.1, sxC, c2, beq_eq_false_iff_ne.2 c3', c3, ai.t1, ai.t5, r1, r2.get, r40, J_precentorref9_Apply_9, ai.t9, J_precentorref9_Apply_10, t8]
                refine Tells.app1 gl (by rfl) (by rfl) (srep g ai.x) (by rfl) (by rfl) (by omega) (by decide) ai.x.next fun s4 g4 gl4 x4 y4 _ => ?_
                try simp
                exact P0 e _ s4 g4 gl4 x4 (ai.os.ext x4 (gl.1.ob ai.os)) (y4 [] ai.x) _ (by simp [ai.t0]) (by simp [ai.t1]) (by simp [ai.t5]) (by simp [ai.t6]) (by simp) (by simp) (by simp [ai.t9]) (by simp [ai.t10])
              · have c3' : ¬ z.n = s.n := fun q => nk ⟨c2, q⟩
                have e : ltK s.c s.n z = true := by simp [ltK, c2]; omega
                simp [J_precentorref9_Apply_7, ai.t0, ai.t10, q1, q2.get, q40, q42, ai.t6, ai.os.1, sxC, c2, beq_eq_false_iff_ne.2 c3', c3, ai.t1, ai.t5, r1, r2.get, r40, J_precentorref9_Apply_9, ai.t9, J_precentorref9_Apply_10, t8]
                exact B0 (fun _ => e) _ (by simp [ai.t0]) (by simp [ai.t1]) (by simp [ai.t5]) (by simp [ai.t6]) (by simp) (by simp [t8]) (by simp [ai.t9]) (by simp [ai.t10])
            · have e : ltK s.c s.n z = true := by simp [ltK]; omega
              simp [J_precentorref9_Apply_7, ai.t0, ai.t10, q1, q2.get, q40, q42, ai.t6, ai.os.1, sxC, beq_eq_false_iff_ne.2 c2, c1, ai.t1, ai.t5, r1, r2.get, r40, J_precentorref9_Apply_9, ai.t9, J_precentorref9_Apply_10, t8]
              exact B0 (fun _ => e) _ (by simp [ai.t0]) (by simp [ai.t1]) (by simp [ai.t5]) (by simp [ai.t6]) (by simp) (by simp [t8]) (by simp [ai.t9]) (by simp [ai.t10])
  · simp at hcc
    have hkm : k = m.length := by omega
    subst hkm
    refine Tells.ok (hQ2 _ _ (.inr ⟨by simp, rfl, ⟨by simp [ai.t0], by simp [ai.t1], by simp [ai.t5], by simp [ai.t6], by simp [ai.t9], by simp [ai.t10], ai.os, ai.x⟩, ?_⟩))
    rcases st with ⟨t8, nx, _, gl, hnx⟩ | ⟨t8, gl, hno, hlt⟩
    · rw [List.drop_length, List.append_nil] at hnx
      subst hnx
      exact .inl ⟨by simp [t8], by simpa using gl⟩
    · rw [List.take_length] at gl hno hlt
      refine .inr ⟨by simp [t8], by simpa using gl, ?_⟩
      have hany : m.any (sameK s.c s.n) = false := by
        rw [List.any_eq_false]
        intro y hy
        simp [hno y hy]
      unfold comeL
      rw [if_neg (by simp [hany]), insB_at (i := m.length) (Nat.le_refl _) (by rw [List.take_length]; exact hlt (by rw [hth, hany])) (fun x hx => by rw [List.getElem?_eq_none (Nat.le_refl _)] at hx; cases hx)]
      simp
end
end Go.Proofs.Ytooeiefgnhgbeaa

/-! SubsTells: the document's Apply, all of it; the brokers of clients. -/
namespace Go.Proofs.Ytooeiefgnhgbeaa
open Go.Ab

section
variable {X : XTab}

theorem ref_Apply (hX : OnlyKnown X) {h : Heap} {v cv : AVal} {l : List Sx} {ch : List Cg} (o : Sl sxR h v l) (hl : l.length ≤ 400) (oc : Sl cgR h cv ch) (hc : ch.length ≤ 400) :
    Tells (fun q => acallX Try.prog X q F_precentorref9_Apply [v, cv] h) fun r h' => Sl sxR h' r (ch.foldl appL l) ∧ Ext [] h h' := by
  refine R_precentorref9_Apply _ _ (hX _ _ rfl) ?_
  refine Tells.prot fun Q' hQ => ?_
  unfold S_precentorref9_Apply
  try simp
  refine Tells.lit (r := sxR) (xs := []) (css := []) (by rfl) trivial (by rfl) (by rfl) (by rfl) fun v2 h1 g1 x1 _ => ?_
  try simp
  refine Tells.appN g1 (o.ext x1) (by rfl) (by simp; omega) (by decide) x1.next fun v6 h2 g2 x2 y2 _ => ?_
  have X2 := y2 [] x1
  have o2 : Sl sxR h2 v6 l := by simpa using g2.1
  try simp
  refine Tells.bind (Tells.loop (fun n t g => ∃ i : Nat, t 1 = cv ∧ t 5 = I i ∧ i + n = ch.length ∧ Sl sxR g (t 0) ((ch.take i).foldl appL l) ∧ Ext [] h g)
    (Q := fun p g => p.1 = .exit 0 ∧ Sl sxR g (p.2 0) (ch.foldl appL l) ∧ Ext [] h g) ?_ ch.length _ _ ⟨0, by simp, by simp, by omega, by simpa using o2, X2⟩) ?_
  · rintro n t g ⟨i, t1, t5, hi, so, xg⟩
    refine Tells.prot fun Q2 hQ2 => ?_
    unfold L_precentorref9_Apply_1
    have og := oc.ext xg
    simp [t1, t5, og.len]
    refine Tells.cb (fun hcc => ?_) (fun hcc => ?_)
    · simp at hcc
      obtain ⟨c, hcx⟩ : ∃ s, ch[i]? = some s := ⟨_, List.getElem?_eq_getElem hcc⟩
      obtain ⟨b, q, B, cs, q1, q2, fv, rfl, of_, _⟩ := og.at (n := 5) rfl (i := (i : Int)) (by omega) (by simpa using hcx)
      have w : IntKind.i64.wrap ((i : Int) + 1) = i + 1 := wrap_id (by omega) (by omega)
      have q40 := q2.cell0 (by simp [sxC])
      simp [sxC] at q40
      have sub := q2.sub 1 4 (by simp [sxC])
      have q4b : (if q + 1 + 4 ≤ B.length then some (AVal.agg (List.take 4 (List.drop (q + 1) B))) else none) = some (.agg (sxC c.s fv)) := by
        have := sub.lda (n := 4) (by simp [sxC])
        simpa [q2.get, sxC] using this
      have tk : (ch.take (i + 1)).foldl appL l = appL ((ch.take i).foldl appL l) c := by rw [List.take_add_one, hcx, List.foldl_append]; rfl
      have len := foldl_len (ch.take i) l
      have len2 : (ch.take i).length ≤ ch.length := by simp; omega
      simp [J_precentorref9_Apply_2, t1, t5, q1, q2.get, q4b]
      refine Tells.newSt (ds := sxC c.s fv) (by rfl) (by rfl) (by rfl) (by simp [sxC, of_.one]) fun g3 bs os x3 l3 => ?_
      obtain ⟨b', q', B', cs', q1', q2', fv', rfl, of', _⟩ := (og.ext x3).at (n := 5) rfl (i := (i : Int)) (by omega) (by simpa using hcx)
      cases q1.symm.trans q1'
      have q40' := q2'.cell0 (by simp [sxC])
      simp [sxC] at q40'
      have X3 := xg.trans x3
      have so3 := so.ext x3
      have oc3 := og.ext x3
      have fin : ∀ (t2 : T) (g4 : Heap), t2 1 = cv → t2 5 = I i → Ext [] h g4 → Sl sxR g4 (t2 0) (appL ((ch.take i).foldl appL l) c) → Tells (fun m => J_precentorref9_Apply_3 Try.prog (acallX Try.prog X m) m okK t2 g4) Q2 := fun t2 g4 a1 a5 x4 s4 => by
        simp [J_precentorref9_Apply_3, a5, w]
        exact Tells.ok (hQ2 _ _ (.inl ⟨rfl, n - 1, by omega, i + 1, by simp [a1], by simp, by omega, by rw [tk]; simpa using s4, x4⟩))
      cases hg : c.gone with
      | true =>
        rw [hg] at q40'
        have eapp : appL ((ch.take i).foldl appL l) c = goneL ((ch.take i).foldl appL l) c.s.c c.s.n := by unfold appL; rw [if_pos hg]
        simp [q1, q2'.get, q40', os.1, sxC]
        refine Tells.bind (ap_gone hX (g0 := g3) (mv := t 0) (cv := cv) (sv := fv) (bs := bs) (i := i) (s := c.s) (m := (ch.take i).foldl appL l) so3 (by omega) oc3 hcx hg ⟨by simp, by simp [t1], by simp [t5], by simp, by simp, by simp, os, .refl⟩ (by simp) (by simp)) ?_
        rintro ⟨ex, t4⟩ g4 ⟨rfl, ai, t8, gl⟩
        have ai : AI t4 g4 g3 (t 0) cv fv bs i ((ch.take i).foldl appL l).length false c.s := ai
        have t8 : t4 8 = .bool true := t8
        simp [J_precentorref9_Apply_4, t8, J_precentorref9_Apply_5]
        exact fin _ g4 (by simp [ai.t1]) (by simp [ai.t5]) (X3.trans ai.x) (by rw [eapp]; simpa using gl.1)
      | false =>
        rw [hg] at q40'
        have eapp : appL ((ch.take i).foldl appL l) c = comeL ((ch.take i).foldl appL l) c.s := by unfold appL; rw [if_neg (by simp [hg])]
        simp [q1, q2'.get, q40', os.1, sxC]
        refine Tells.bind (ref_Has hX so3 (by omega) c.s.c c.s.n) ?_
        rintro _ g4 ⟨rfl, rfl⟩
        try simp
        refine Tells.bind (ap_come hX (g0 := g4) (mv := t 0) (cv := cv) (sv := fv) (bs := bs) (i := i) (s := c.s) (m := (ch.take i).foldl appL l) (th := ((ch.take i).foldl appL l).any (sameK c.s.c c.s.n)) so3 (by omega) oc3 hcx hg rfl (of_.ext x3) ⟨by simp, by simp [t1], by simp [t5], by simp, by simp, by simp, os, .refl⟩ (by simp) (by simp)) ?_
        rintro ⟨ex, t4⟩ g5 ⟨rfl, ai, st⟩
        have ai : AI t4 g5 g4 (t 0) cv fv bs i ((ch.take i).foldl appL l).length (((ch.take i).foldl appL l).any (sameK c.s.c c.s.n)) c.s := ai
        rcases st with ⟨t8, gl⟩ | ⟨t8, gl, ecome⟩
        · have t8 : t4 8 = .bool true := t8
          simp [J_precentorref9_Apply_4, t8, J_precentorref9_Apply_5]
          exact fin _ g5 (by simp [ai.t1]) (by simp [ai.t5]) (X3.trans ai.x) (by rw [eapp]; simpa using gl.1)
        · have t8 : t4 8 = .bool false := t8
          simp [J_precentorref9_Apply_4, t8, ai.t6, ai.os.1, sxC]
          refine Tells.app1 gl (by rfl) (by rfl) (show sxR.rep g5 (sxC c.s fv) c.s from ⟨fv, rfl, (of_.ext x3).ext ai.x, fun _ _ => trivial⟩) (by rfl) (by rfl) (by omega) (by decide) ai.x.next fun s6 g6 gl6 x6 y6 _ => ?_
          simp [J_precentorref9_Apply_5]
          exact fin _ g6 (by simp [ai.t1]) (by simp [ai.t5]) (X3.trans (y6 [] ai.x)) (by rw [eapp, ecome]; simpa using gl6.1)
    · simp at hcc
      have hfl : ch.take i = ch := List.take_of_length_le (by omega)
      rw [hfl] at so
      exact Tells.ok (hQ2 _ _ (.inr ⟨by simp, rfl, by simpa using so, xg⟩))
  · rintro ⟨ex, t⟩ g ⟨rfl, so, xg⟩
    simp [J_precentorref9_Apply_0]
    exact Tells.ok (hQ _ _ ⟨by simpa using so, xg⟩)

/-- n is in its place, once. -/
def insI (n : Int) : List Int → List Int
  | [] => [n]
  | x :: r => if x < n then x :: insI n r else if x = n then x :: r else n :: x :: r
theorem insI_at {n : Int} : ∀ {l : List Int} {i : Nat}, i ≤ l.length → (∀ y, y ∈ l.take i → y < n) → (∀ x, l[i]? = some x → ¬ x < n) → insI n l = if l[i]? = some n then l else l.take i ++ n :: l.drop i
  | [], i, h, _, _ => by
    have : i = 0 := by simpa using h
    subst this
    rfl
  | x :: r, 0, _, _, h => by
    have := h x (by simp)
    simp only [insI, if_neg this]
    by_cases e : x = n
    · simp [e]
    · simp [e]
  | x :: r, i + 1, hl, hn, h => by
    have hx := hn x (by simp)
    have ih := insI_at (n := n) (l := r) (i := i) (by simpa using hl) (fun y hy => hn y (by simp [hy])) (fun z hz => h z (by simpa using hz))
    simp only [insI, if_pos hx, ih, List.getElem?_cons_succ]
    split
    · rfl
    · simp

theorem subs_lay (hX : OnlyKnown X) {h : Heap} {v : AVal} {l : List Int} (o : Sl intR h v l) (hl : l.length ≤ 1000) (n : Int) :
    Tells (fun q => acallX Try.prog X q F_subs_lay [v, I n] h) fun r h' => Sl intR h' r (insI n l) ∧ Ext [] h h' := by
  refine R_subs_lay _ _ (hX _ _ rfl) ?_
  refine Tells.prot fun Q' hQ => ?_
  unfold S_subs_lay
  try simp
  refine Tells.bind (Tells.loop (fun k t g => g = h ∧ ∃ i : Nat, t 0 = v ∧ t 1 = I n ∧ t 5 = I i ∧ i + k = l.length ∧ ∀ y, y ∈ l.take i → y < n)
    (Q := fun p g => p.1 = .exit 0 ∧ g = h ∧ p.2 0 = v ∧ p.2 1 = I n ∧ ∃ i : Nat, p.2 5 = I i ∧ i ≤ l.length ∧ (∀ y, y ∈ l.take i → y < n) ∧ ∀ x, l[i]? = some x → ¬ x < n) ?_ l.length _ _ ⟨rfl, 0, by simp, by simp, by simp, by omega, by simp⟩) ?_
  · rintro k t g ⟨rfl, i, t0, t1, t5, hi, hlt⟩
    refine Tells.prot fun Q2 hQ2 => ?_
    unfold L_subs_lay_2
    have w : IntKind.i64.wrap ((i : Int) + 1) = i + 1 := wrap_id (by omega) (by omega)
    by_cases hc : i < l.length
    · obtain ⟨x, hx⟩ : ∃ x, l[i]? = some x := ⟨_, List.getElem?_eq_getElem hc⟩
      obtain ⟨b, p, B, q1, q2, q3⟩ := o.atI hx
      have hc' : ((i : Int) < (l.length : Int)) := by omega
      by_cases hxn : x < n
      · simp [t0, t1, t5, o.len, hc, hc', q1, q2, q3, hxn, J_subs_lay_3, w]
        refine Tells.ok (hQ2 _ _ (.inl ⟨rfl, k - 1, by omega, rfl, i + 1, by simp [t0], by simp [t1], by simp, by omega, fun y hy => ?_⟩))
        rw [List.take_add_one, hx] at hy
        rcases List.mem_append.1 hy with u | u
        · exact hlt y u
        · simp at u; subst u; exact hxn
      · simp [t0, t1, t5, o.len, hc, hc', q1, q2, q3, hxn]
        exact Tells.ok (hQ2 _ _ (.inr ⟨by simp, rfl, rfl, by simp [t0], by simp [t1], i, by simp [t5], by omega, hlt, fun y hy => by rw [hx] at hy; cases hy; exact hxn⟩))
    · have hc' : ¬ ((i : Int) < (l.length : Int)) := by omega
      simp [t0, t1, t5, o.len, hc, hc']
      exact Tells.ok (hQ2 _ _ (.inr ⟨by simp, rfl, rfl, by simp [t0], by simp [t1], i, by simp [t5], by omega, hlt, fun y hy => by rw [List.getElem?_eq_none (by omega)] at hy; cases hy⟩))
  · rintro ⟨ex, t⟩ g ⟨rfl, rfl, t0, t1, i, t5, hi, hlt, hge⟩
    have t0 : t 0 = v := t0
    have t1 : t 1 = I n := t1
    have t5 : t 5 = I i := t5
    have e := insI_at hi hlt hge
    have rest : ¬ l[i]? = some n → ∀ t2 : T, t2 0 = v → t2 1 = I n → t2 5 = I i → Tells (fun m => J_subs_lay_1 Try.prog (acallX Try.prog X m) m (retK Try.prog [.tmp 4]) t2 g) Q' := fun hne t2 a0 a1 a5 => by
      rw [if_neg hne] at e
      obtain ⟨v1, u1, u2, _⟩ := o.takeR (n := 1) rfl hi
      obtain ⟨v2, u3, u4, _⟩ := o.dropR (n := 1) rfl hi
      simp [J_subs_lay_1, a0, a5, u1]
      refine Tells.copy u2 (by rfl) (by simp; omega) (by decide) fun s2 g2 gl2 x2 w2 => ?_
      try simp [a1]
      refine Tells.app1E gl2 (by rfl) (by rfl) (show intR.rep g2 [I n] n from rfl) (by rfl) (by rfl) (by simp; omega) (by decide) x2.next fun s3 g3 gl3 x3 y3 _ => ?_
      have X3 := y3 [] x2
      try simp [a0, a5, u3]
      refine Tells.appNE gl3 ((u4.ext x2).ext x3) (by rfl) (by simp; omega) (by decide) (by have := x3.next; have := x2.next; omega) fun s4 g4 gl4 x4 y4 _ => ?_
      try simp
      exact Tells.ok (hQ _ _ ⟨by rw [e]; simpa using gl4.1, y4 [] X3⟩)
    by_cases hc : i < l.length
    · obtain ⟨x, hx⟩ : ∃ x, l[i]? = some x := ⟨_, List.getElem?_eq_getElem hc⟩
      obtain ⟨b, p, B, q1, q2, q3⟩ := o.atI hx
      have hc' : ((i : Int) < (l.length : Int)) := by omega
      by_cases hxn : x = n
      · simp [J_subs_lay_0, t0, t1, t5, o.len, hc, hc', q1, q2, q3, hxn]
        exact Tells.ok (hQ _ _ ⟨by rw [e, if_pos (by rw [hx, hxn])]; exact o, .refl⟩)
      · simp [J_subs_lay_0, t0, t1, t5, o.len, hc, hc', q1, q2, q3, beq_eq_false_iff_ne.2 hxn]
        exact rest (fun k => hxn (by rw [hx] at k; cases k; rfl)) _ (by simp [t0]) (by simp [t1]) (by simp [t5])
    · have hc' : ¬ ((i : Int) < (l.length : Int)) := by omega
      simp [J_subs_lay_0, t0, t1, t5, o.len, hc, hc']
      exact rest (fun k => by rw [List.getElem?_eq_none (by omega)] at k; cases k) _ (by simp [t0]) (by simp [t1]) (by simp [t5])
end
end Go.Proofs.Ytooeiefgnhgbeaa

/-! What subs.Same tells. -/
namespace Go.Proofs.Ytooeiefgnhgbeaa
open Go.Ab

section
variable {X : XTab}
theorem subs_Same (hX : OnlyKnown X) {h : Heap} {a b : AVal} {l m : List Sx} (o : Sl sxR h a l) (p : Sl sxR h b m) (hl : l.length ≤ 1000) (sz : ∀ x, x ∈ l → SzX x) (sz2 : ∀ x, x ∈ m → SzX x) :
    Tells (fun q => acallX Try.prog X q F_subs_Same [a, b] h) fun r h' => r = .bool (sameL sameSx l m) ∧ Ext [] h h' := by
  refine R_subs_Same _ _ (hX _ _ rfl) ?_
  refine Tells.prot fun Q' hQ => ?_
  unfold S_subs_Same
  by_cases hlm : l.length = m.length
  · simp [o.len, p.len, hlm, J_subs_Same_0]
    refine Tells.bind (Tells.loop (fun k t g => ∃ i : Nat, t 0 = a ∧ t 1 = b ∧ t 12 = I m.length ∧ t 13 = I i ∧ i + k = l.length ∧ sameL sameSx l m = sameL sameSx (l.drop i) (m.drop i) ∧ Ext [] h g)
      (Q := fun r g => ((r.1 = .exit 0 ∧ sameL sameSx l m = true) ∨ (r.1 = .ret ∧ r.2 4 = .bool false ∧ sameL sameSx l m = false)) ∧ Ext [] h g) ?_ l.length _ _ ⟨0, by simp, by simp, by simp, by simp, by omega, by simp, .refl⟩) ?_
    · rintro k t g ⟨i, t0, t1, tl, ti, hi, hs, xg⟩
      refine Tells.prot fun Q2 hQ2 => ?_
      unfold L_subs_Same_2
      have og := o.ext xg
      have pg := p.ext xg
      simp [t0, tl, ti, og.len]
      refine Tells.cb (fun hc => ?_) (fun hc => ?_)
      · simp at hc
        have hc1 : i < l.length := by omega
        obtain ⟨x, hx⟩ : ∃ x, l[i]? = some x := ⟨_, List.getElem?_eq_getElem hc1⟩
        obtain ⟨y, hy⟩ : ∃ y, m[i]? = some y := ⟨_, List.getElem?_eq_getElem (by omega)⟩
        obtain ⟨b1, p1, B1, c1, q1, q2, f1, rfl, of1, _⟩ := og.at (n := 4) rfl (i := (i : Int)) (by omega) (by simpa using hx)
        obtain ⟨b2, p2, B2, c2, r1, r2, f2, rfl, of2, _⟩ := pg.at (n := 4) rfl (i := (i : Int)) (by omega) (by simpa using hy)
        have w : IntKind.i64.wrap ((i : Int) + 1) = i + 1 := wrap_id (by omega) (by omega)
        have q40 := q2.cell0 (by simp [sxC])
        have q41 := q2.cell (k := 1) (by simp [sxC])
        have q42 := q2.cell (k := 2) (by simp [sxC])
        have q43 := q2.cell (k := 3) (by simp [sxC])
        have r40 := r2.cell0 (by simp [sxC])
        have r41 := r2.cell (k := 1) (by simp [sxC])
        have r42 := r2.cell (k := 2) (by simp [sxC])
        have r43 := r2.cell (k := 3) (by simp [sxC])
        simp [sxC] at q40 q41 q42 q43 r40 r41 r42 r43
        have e := sameL_drop (f := sameSx) hx hy
        have no : sameSx x y = false → ∀ (t' : T) (g' : Heap), t' 4 = .bool false → Ext [] h g' → Q2 (.ret, t') g' := fun hf t' g' a4 xg' => hQ2 _ _ (.inr ⟨by simp, .inr ⟨rfl, a4, by rw [hs, e, hf]; rfl⟩, xg'⟩)
        cases e1 : (x.c == y.c) with
        | false =>
          have e1' : (x.c != y.c) = true := by simp [bne, e1]
          simp [J_subs_Same_3, t0, t1, ti, q1, q2.get, q40, r1, r2.get, r40, e1']
          exact Tells.ok (no (by simp [sameSx, e1]) _ _ (by simp) xg)
        | true =>
          have e1' : (x.c != y.c) = false := by simp [bne, e1]
          cases e2 : (x.b == y.b) with
          | false =>
            have e2' : (x.b != y.b) = true := by simp [bne, e2]
            simp [J_subs_Same_3, t0, t1, ti, q1, q2.get, q40, q41, r1, r2.get, r40, r41, e1', e2']
            exact Tells.ok (no (by simp [sameSx, e1, e2]) _ _ (by simp) xg)
          | true =>
            have e2' : (x.b != y.b) = false := by simp [bne, e2]
            cases e3 : (x.n == y.n) with
            | false =>
              have e3' : (x.n != y.n) = true := by simp [bne, e3]
              simp [J_subs_Same_3, t0, t1, ti, q1, q2.get, q40, q41, q42, r1, r2.get, r40, r41, r42, e1', e2', e3']
              exact Tells.ok (no (by simp [sameSx, e1, e2, e3]) _ _ (by simp) xg)
            | true =>
              have e3' : (x.n != y.n) = false := by simp [bne, e3]
              simp [J_subs_Same_3, t0, t1, ti, q1, q2.get, q40, q41, q42, q43, r1, r2.get, r40, r41, r42, r43, e1', e2', e3']
              refine Tells.cbE (filter_Same hX of1 of2 (sz x (List.mem_of_getElem? hx)).1 (sz x (List.mem_of_getElem? hx)).2 (sz2 y (List.mem_of_getElem? hy)).2) ?_
              rintro _ g1 ⟨rfl, x1⟩
              cases hf : sameL samePr x.fl y.fl with
              | false =>
                try simp
                exact Tells.ok (no (by simp [sameSx, e1, e2, e3, hf]) _ _ (by simp) (xg.trans x1))
              | true =>
                have hxy : sameSx x y = true := by simp only [sameSx, e1, e2, e3, hf]; rfl
                simp [J_subs_Same_4, ti, w]
                exact Tells.ok (hQ2 _ _ (.inl ⟨rfl, k - 1, by omega, i + 1, by simp [t0], by simp [t1], by simp [tl], by simp, by omega, by rw [hs, e, hxy]; rfl, xg.trans x1⟩))
      · simp at hc
        refine Tells.ok (hQ2 _ _ (.inr ⟨by simp, .inl ⟨rfl, ?_⟩, xg⟩))
        rw [hs, List.drop_eq_nil_of_le (by omega), List.drop_eq_nil_of_le (by omega)]
        rfl
    · rintro ⟨ex, t⟩ g ⟨⟨rfl, he⟩ | ⟨rfl, t4, he⟩, xg⟩
      · simp [J_subs_Same_1]
        exact Tells.ok (hQ _ _ ⟨by rw [he], xg⟩)
      · have t4 : t 4 = .bool false := t4
        simp [t4]
        exact Tells.ok (hQ _ _ ⟨by rw [he], xg⟩)
  · have hn : ((l.length : Int) != (m.length : Int)) = true := by simp; omega
    simp [o.len, p.len, hn]
    exact Tells.ok (hQ _ _ ⟨by rw [sameL_len hlm], .refl⟩)
end
end Go.Proofs.Ytooeiefgnhgbeaa

/-! What precentorhand's Name, Pred, Filter tell. -/
namespace Go.Proofs.Ytooeiefgnhgbeaa
open Go.Ab

section
variable {X : XTab}

def names4 : List ByteArray := [bs [97], bs [98], bs [99], bs [108, 111, 110, 103]]
def texts4 : List ByteArray := [bs [], bs [97], bs [98], bs [97, 98]]

theorem NameH (hX : OnlyKnown X) {h : Heap} {bf k : Nat} (f : Feed h bf k) (hk : k < 2 ^ 61) :
    Tells (fun q => acallX Try.prog X q F_precentorhand_Feed_Name [.ptr bf 0] h) fun r h' => ∃ nm, r = .str nm ∧ nm ∈ names4 ∧ Ext [bf] h h' ∧ Feed h' bf (k + 1) := by
  refine R_precentorhand_Feed_Name _ (hX _ _ rfl) ?_
  refine Tells.prot fun Q' hQ => ?_
  unfold S_precentorhand_Feed_Name
  simp [bldR, fillR, splice]
  refine Tells.bind (Next hX 12 ⟨by decide, by decide⟩ f (by omega)) ?_
  rintro _ h1 ⟨r, rfl, r0, r1, _, x1, f1⟩
  have r1 := r1 (by decide)
  have : r = 0 ∨ r = 1 ∨ r = 2 ∨ r = 3 ∨ r = 4 ∨ r = 5 ∨ r = 6 ∨ r = 7 ∨ r = 8 ∨ r = 9 ∨ r = 10 ∨ r = 11 := by omega
  rcases this with rfl | rfl | rfl | rfl | rfl | rfl | rfl | rfl | rfl | rfl | rfl | rfl
  all_goals
    refine Tells.ok (hQ _ _ ⟨_, rfl, ?_, x1, f1⟩)
    simp [names4]

/-- The zero value. -/
def vlZ : Vl := ⟨0, 0, 0, bs [], false⟩
/-- A test that the feed tells. -/
def FedP (p : Prd) : Prop := p.name ∈ names4 ∧ ((p.test = 1 ∧ p.v = vlZ ∧ p.w = vlZ ∧ p.set = []) ∨ (p.test = 9 ∧ (∃ s, s ∈ texts4 ∧ p.v = ⟨3, 0, 0, s, false⟩) ∧ p.w = vlZ ∧ p.set = []) ∨
  (p.test = 10 ∧ p.v = vlZ ∧ p.w = vlZ ∧ 1 ≤ p.set.length ∧ p.set.length ≤ 4 ∧ ∀ x, x ∈ p.set → FedV x) ∨ (p.test = 8 ∧ FedV p.v ∧ FedV p.w ∧ p.set = []) ∨
  (2 ≤ p.test ∧ p.test ≤ 7 ∧ FedV p.v ∧ p.w = vlZ ∧ p.set = []))

theorem PredH (hX : OnlyKnown X) {h : Heap} {bf k : Nat} (f : Feed h bf k) (hk : k < 2 ^ 60) {nm : ByteArray} (hn : nm ∈ names4) :
    Tells (fun q => acallX Try.prog X q F_precentorhand_Feed_Pred [.ptr bf 0, .str nm] h) fun r h' => ∃ p sv, r = .agg (prC p sv) ∧ p.name = nm ∧ FedP p ∧ Sl vlR h' sv p.set ∧ Wr h h' sv ∧ Ext [bf] h h' ∧ Feed h' bf (k + 12) := by
  refine R_precentorhand_Feed_Pred _ _ (hX _ _ rfl) ?_
  refine Tells.prot fun Q' hQ => ?_
  unfold S_precentorhand_Feed_Pred
  try simp
  refine Tells.new fun h1 br or x1 l1 => ?_
  have hne1 : bf ≠ br := by have := f.lt; omega
  try simp
  refine Tells.bind (Next hX 10 ⟨by decide, by decide⟩ (f.e x1) (by omega)) ?_
  rintro _ h2 ⟨r, rfl, r0, r1, _, x2, f2⟩
  have r1 := r1 (by decide)
  have or2 := or.ext x2 (by simpa using hne1.symm)
  have w : IntKind.i64.wrap (1 + r) = 1 + r := wrap_id (by omega) (by omega)
  simp [bldR, fillR, splice, w]
  refine Tells.newSt (ds := prC ⟨nm, 1 + r, vlZ, vlZ, []⟩ .nils) (by rfl) (by rfl) (by rfl) (by rfl) fun h3 bp op x3 l3 => ?_
  have f3 := f2.e x3
  have or3 := or2.e x3
  have hne2 : bf ≠ bp := by have := f2.lt; omega
  have hne3 : br ≠ bp := by have := or2.lt; omega
  have ll : h.next ≤ br := l1
  have lp : h.next ≤ bp := by have := x1.next; have := x2.next; omega
  have x03 : Ext [bf] h h3 := (x1.of.trans x2).quiet x3
  -- how each way ends
  have fin : ∀ (g : Heap) (p : Prd) (sv : AVal) (K : Nat), K ≤ k + 12 → FedP p → p.name = nm → Ob g bp (prC p sv) → Ob g br [.str (bs []), I 0, I 0, I 0, .flt .f64 0, .str (bs []), .bool false, I 0, I 0, .flt .f64 0, .str (bs []), .bool false, .nils] → Sl vlR g sv p.set → Wr h g sv → Ext [bf] h g → Feed g bf K →
      ∀ (t : T), t 4 = .ptr br 0 → t 5 = .ptr bp 0 → ∀ ty, (∀ h a, aLoad Try.prog h ty a = ldn 13 h a) →
      (Tells (fun m => J_precentorhand_Feed_Pred_1 Try.prog (acallX Try.prog X m) m (retK Try.prog [.cell 4 ty]) t g) Q' ∧
       Tells (fun m => J_precentorhand_Feed_Pred_2 Try.prog (acallX Try.prog X m) m (blkK 0 (sqK (J_precentorhand_Feed_Pred_0 Try.prog (acallX Try.prog X m) m (retK Try.prog [.cell 4 ty])) (retK Try.prog [.cell 4 ty]))) t g) Q') := by
    intro g p sv K hK hp hpn o o' os ws x f t t4 t5 ty hty
    have main : ∀ (h' : Heap), Ob h' br (prC p sv) → Ext [br] g h' → Q' (.agg (prC p sv)) h' := fun h' o2 x2 => hQ _ _ ⟨p, sv, rfl, hpn, hp, os.ext x2, ws.ext x2, x.then x2 fun z hz => .inr (by simp at hz; omega), (f.ext x2 (by simpa using hne1)).mono hK⟩
    constructor
    · simp [J_precentorhand_Feed_Pred_1, t5, t4, o.1]
      refine Tells.stN o' (ds := prC p sv) (by rfl) (by rfl) (by simp [prC, vlC, os.one]) (by rfl) fun h' o2 x2 => ?_
      simp [t4, hty, o2.1, prC, vlC]
      exact Tells.ok (main h' o2 x2)
    · simp [J_precentorhand_Feed_Pred_2, t5, t4, o.1]
      refine Tells.stN o' (ds := prC p sv) (by rfl) (by rfl) (by simp [prC, vlC, os.one]) (by rfl) fun h' o2 x2 => ?_
      simp [t4, hty, o2.1, prC, vlC]
      exact Tells.ok (main h' o2 x2)
  have outS : ∀ (g : Heap) (p : Prd) (K : Nat), K ≤ k + 12 → FedP p → p.name = nm → p.set = [] → Ext [bf] h g → Feed g bf K → ∀ (h' : Heap), Ob h' br (prC p .nils) → Ext [br] g h' → Q' (.agg (prC p .nils)) h' := fun g p K hK hp hpn hs x f h' o2 x2 => hQ _ _ ⟨p, .nils, rfl, hpn, hp, by rw [hs]; exact Sl.nil, fun b hb => by simp [AVal.blks] at hb, x.then x2 fun z hz => .inr (by simp at hz; omega), (f.ext x2 (by simpa using hne1)).mono hK⟩
  by_cases c1 : r = 0
  · subst c1
    simp [prC, vlC, vlZ, op.1]
    refine Tells.stN or3 (ds := prC ⟨nm, 1, vlZ, vlZ, []⟩ .nils) (by rfl) (by rfl) (by rfl) (by rfl) fun h4 o4 x4 => ?_
    simp [C_precentorhand_Feed_Pred_0, o4.1, prC, vlC, vlZ]
    exact Tells.ok (outS h3 ⟨nm, 1, vlZ, vlZ, []⟩ _ (by omega) ⟨hn, .inl ⟨rfl, rfl, rfl, rfl⟩⟩ rfl rfl x03 f3 h4 o4 x4)
  · have e1 : (1 + r == 1) = false := beq_eq_false_iff_ne.2 (by omega)
    by_cases c2 : r = 8
    · subst c2
      simp [prC, vlC, vlZ, op.1]
      refine Tells.bind (Next hX 4 ⟨by decide, by decide⟩ f3 (by omega)) ?_
      rintro _ h4 ⟨u, rfl, u0, u1, _, x4, f4⟩
      have u1 := u1 (by decide)
      have op4 := op.ext x4 (by simpa using hne2.symm)
      have or4 := or3.ext x4 (by simpa using hne1.symm)
      obtain ⟨s, hs, hs2⟩ : ∃ s, s ∈ texts4 ∧ ixa1 4 1 (.agg [.str (bs []), .str (bs [97]), .str (bs [98]), .str (bs [97, 98])]) (I u) = some (.str s) := by
        have : u = 0 ∨ u = 1 ∨ u = 2 ∨ u = 3 := by omega
        rcases this with rfl | rfl | rfl | rfl
        · exact ⟨bs [], by simp [texts4], by rfl⟩
        · exact ⟨bs [97], by simp [texts4], by rfl⟩
        · exact ⟨bs [98], by simp [texts4], by rfl⟩
        · exact ⟨bs [97, 98], by simp [texts4], by rfl⟩
      simp [hs2, bldR, fillR, splice]
      refine Tells.st op4 (by rfl) (by rfl) (by simp [prC, vlC]) fun h5 op5 x5 => ?_
      have op5 : Ob h5 bp (prC ⟨nm, 9, ⟨3, 0, 0, s, false⟩, vlZ, []⟩ .nils) := by simpa [prC, vlC, vlZ, splice] using op5
      have or5 := or4.ext x5 (by simpa using hne3)
      have f5 := f4.ext x5 (by simpa using hne2)
      simp [prC, vlC, vlZ, op5.1]
      refine Tells.stN or5 (ds := prC ⟨nm, 9, ⟨3, 0, 0, s, false⟩, vlZ, []⟩ .nils) (by rfl) (by rfl) (by rfl) (by rfl) fun h6 o6 x6 => ?_
      simp [C_precentorhand_Feed_Pred_0, o6.1, prC, vlC, vlZ]
      have x05 : Ext [bf] h h5 := (x03.trans x4).then x5 fun z hz => .inr (by simp at hz; omega)
      exact Tells.ok (outS h5 ⟨nm, 9, ⟨3, 0, 0, s, false⟩, vlZ, []⟩ _ (by omega) ⟨hn, .inr (.inl ⟨rfl, ⟨s, hs, rfl⟩, rfl, rfl⟩)⟩ rfl rfl x05 f5 h6 o6 x6)
    · have e2 : (1 + r == 9) = false := beq_eq_false_iff_ne.2 (by omega)
      by_cases c3 : r = 9
      · subst c3
        simp [prC, vlC, vlZ, op.1]
        refine Tells.bind (Next hX 4 ⟨by decide, by decide⟩ f3 (by omega)) ?_
        rintro _ h4 ⟨u, rfl, u0, u1, _, x4, f4⟩
        have u1 := u1 (by decide)
        obtain ⟨u, rfl⟩ : ∃ n : Nat, u = n := ⟨u.toNat, by omega⟩
        have op4 := op.ext x4 (by simpa using hne2.symm)
        have or4 := or3.ext x4 (by simpa using hne1.symm)
        try simp
        refine Tells.bind (Tells.loop (fun n t g => ∃ (i : Nat) (sv : AVal) (set : List Vl), t 0 = .ptr bf 0 ∧ t 4 = .ptr br 0 ∧ t 5 = .ptr bp 0 ∧ t 6 = I ((u : Int) - i) ∧ i + n = u + 1 ∧ set.length = i ∧ (∀ x, x ∈ set → FedV x) ∧ Ob g bp (prC ⟨nm, 10, vlZ, vlZ, set⟩ sv) ∧ Ob g br [.str (bs []), I 0, I 0, I 0, .flt .f64 0, .str (bs []), .bool false, I 0, I 0, .flt .f64 0, .str (bs []), .bool false, .nils] ∧ Gl vlR h4 g sv set ∧ Wr h4 g sv ∧ Feed g bf (k + 2 + 2 * i) ∧ Ext [bf, bp] h4 g)
          (Q := fun p g => p.1 = .exit 1 ∧ p.2 4 = .ptr br 0 ∧ p.2 5 = .ptr bp 0 ∧ ∃ (sv : AVal) (set : List Vl), set.length = u + 1 ∧ (∀ x, x ∈ set → FedV x) ∧ Ob g bp (prC ⟨nm, 10, vlZ, vlZ, set⟩ sv) ∧ Ob g br [.str (bs []), I 0, I 0, I 0, .flt .f64 0, .str (bs []), .bool false, I 0, I 0, .flt .f64 0, .str (bs []), .bool false, .nils] ∧ Sl vlR g sv set ∧ Wr h4 g sv ∧ Feed g bf (k + 12) ∧ Ext [bf, bp] h4 g) ?_ (u + 1) _ _ ?_) ?_
        · rintro n t g ⟨i, sv, set, t0, t4, t5, t6, hi, hl, hf, po, ro, gs, ws, fg, xg⟩
          refine Tells.prot fun Q2 hQ2 => ?_
          unfold L_precentorhand_Feed_Pred_3
          have wu : IntKind.i64.wrap ((u : Int) - i - 1) = (u : Int) - i - 1 := wrap_id (by omega) (by omega)
          by_cases hc : i ≤ u
          · have hc' : (0 : Int) ≤ (u : Int) - i := by omega
            have hc2 : (i : Int) ≤ u := by omega
            simp [t6, hc', hc2, J_precentorhand_Feed_Pred_4, t5, t0, po.1, prC, vlC]
            refine Tells.cbE (ValueH hX fg (by omega)) ?_
            rintro _ g1 ⟨x, rfl, hx, x1', f1'⟩
            have po1 := po.ext x1' (by simpa using hne2.symm)
            have ro1 := ro.ext x1' (by simpa using hne1.symm)
            have gs1 := gs.ext x1' (fun b hb q => by simp at q; subst q; have := (gs.1.blk _ hb).1; rw [fg.m] at this; cases this)
            have ws1 := ws.ext x1'
            simp [po1.1, prC, vlC]
            refine Tells.app1WE gs1 ws1 (by rfl) (by rfl) (show vlR.rep g1 (vlC x) x from rfl) (by rfl) (by rfl) (by omega) (by decide) (by have := xg.next; have := x1'.next; omega) fun s3 h3' g3 w3 x3' y3 z3 => ?_
            have po3 := po1.ext x3' (gs1.1.ob po1)
            have ro3 := ro1.ext x3' (gs1.1.ob ro1)
            have f3' := f1'.ext x3' (fun q => by have := (gs1.1.blk _ q).1; rw [f1'.m] at this; cases this)
            try simp
            refine Tells.st1E po3 g3.1.cells g3.1.one (by simp [prC, vlC]) fun h4' po4 x4' => ?_
            have po4 : Ob h4' bp (prC ⟨nm, 10, vlZ, vlZ, set ++ [x]⟩ s3) := by simpa [prC, vlC, vlZ] using po4
            have ro4 := ro3.ext x4' (by simpa using hne3)
            have f4' := f3'.ext x4' (by simpa using hne2)
            simp [J_precentorhand_Feed_Pred_5, t6, wu]
            refine Tells.ok (hQ2 _ _ (.inl ⟨rfl, n - 1, by omega, i + 1, s3, set ++ [x], by simp [t0], by simp [t4], by simp [t5], by simp; omega, by omega, by simp; omega, ?_, po4, ro4, g3.extO x4' (by simpa using .inl po3.2.1), w3.ext x4', f4'.mono (by omega), ?_⟩))
            · intro z hz
              rcases List.mem_append.1 hz with q | q
              · exact hf z q
              · simp at q; subst q; exact hx
            · have x5 := y3 [bf, bp] (xg.trans (x1'.mono (by simp)))
              exact x5.trans (x4'.mono (by simp))
          · have hc' : ¬ (0 : Int) ≤ (u : Int) - i := by omega
            have hc2 : ¬ (i : Int) ≤ u := by omega
            simp [t6, hc', hc2]
            exact Tells.ok (hQ2 _ _ (.inr ⟨by simp, rfl, by simp [t4], by simp [t5], sv, set, by omega, hf, po, ro, gs.1, ws, fg.mono (by omega), xg⟩))
        · exact ⟨0, .nils, [], by simp, by simp, by simp, by simp, by omega, rfl, by simp, by simpa [prC, vlC, vlZ] using op4, or4, Gl.nil, fun b hb => by simp [AVal.blks] at hb, by simpa using f4, .refl⟩
        · rintro ⟨ex, t⟩ g ⟨rfl, t4, t5, sv, set, hl, hf, po, ro, gs, ws, fg, xg⟩
          refine (fin g ⟨nm, 10, vlZ, vlZ, set⟩ sv (k + 12) (Nat.le_refl _) ⟨hn, .inr (.inr (.inl ⟨rfl, rfl, rfl, by show 1 ≤ set.length; omega, by show set.length ≤ 4; omega, hf⟩))⟩ rfl po ro gs (ws.back (by have := x03.next; have := x4.next; omega)) ?_ fg t t4 t5 _ C_precentorhand_Feed_Pred_0).2
          exact (x03.trans x4).then xg fun z hz => by simp at hz; rcases hz with rfl | rfl; exact .inl (by simp); exact .inr lp
      · have e3 : (1 + r == 10) = false := beq_eq_false_iff_ne.2 (by omega)
        simp [prC, vlC, vlZ, op.1, e1, e2, e3, J_precentorhand_Feed_Pred_0]
        refine Tells.bind (ValueH hX f3 (by omega)) ?_
        rintro _ h4 ⟨x, rfl, hx, x4, f4⟩
        have op4 := op.ext x4 (by simpa using hne2.symm)
        have or4 := or3.ext x4 (by simpa using hne1.symm)
        try simp
        refine Tells.st op4 (by rfl) (by rfl) (by simp [prC, vlC]) fun h5 op5 x5 => ?_
        have op5 : Ob h5 bp (prC ⟨nm, 1 + r, x, vlZ, []⟩ .nils) := by simpa [prC, vlC, vlZ, splice] using op5
        have or5 := or4.ext x5 (by simpa using hne3)
        have f5 := f4.ext x5 (by simpa using hne2)
        have x05 : Ext [bf] h h5 := (x03.trans x4).then x5 fun z hz => .inr (by simp at hz; omega)
        by_cases c4 : r = 7
        · subst c4
          simp [prC, vlC, vlZ, op5.1]
          refine Tells.bind (ValueH hX f5 (by omega)) ?_
          rintro _ h6 ⟨y, rfl, hy, x6, f6⟩
          have op6 := op5.ext x6 (by simpa using hne2.symm)
          have or6 := or5.ext x6 (by simpa using hne1.symm)
          try simp
          refine Tells.st op6 (by rfl) (by rfl) (by simp [prC, vlC]) fun h7 op7 x7 => ?_
          have op7 : Ob h7 bp (prC ⟨nm, 8, x, y, []⟩ .nils) := by simpa [prC, vlC, vlZ, splice] using op7
          have or7 := or6.ext x7 (by simpa using hne3)
          have f7 := f6.ext x7 (by simpa using hne2)
          have x07 : Ext [bf] h h7 := (x05.trans x6).then x7 fun z hz => .inr (by simp at hz; omega)
          exact (fin h7 ⟨nm, 8, x, y, []⟩ .nils _ (by omega) ⟨hn, .inr (.inr (.inr (.inl ⟨rfl, hx, hy, rfl⟩)))⟩ rfl op7 or7 Sl.nil (fun b hb => by simp [AVal.blks] at hb) x07 f7 _ (by simp) (by simp) _ C_precentorhand_Feed_Pred_0).1
        · have e4 : (1 + r == 8) = false := beq_eq_false_iff_ne.2 (by omega)
          simp [prC, vlC, vlZ, op5.1, e4]
          exact (fin h5 ⟨nm, 1 + r, x, vlZ, []⟩ .nils _ (by omega) ⟨hn, .inr (.inr (.inr (.inr ⟨by show 2 ≤ 1 + r; omega, by show 1 + r ≤ 7; omega, hx, rfl, rfl⟩)))⟩ rfl op5 or5 Sl.nil (fun b hb => by simp [AVal.blks] at hb) x05 f5 _ (by simp) (by simp) _ C_precentorhand_Feed_Pred_0).1
end
end Go.Proofs.Ytooeiefgnhgbeaa

/-! A feed lives through a write into a row. -/
namespace Go.Proofs.Ytooeiefgnhgbeaa
open Go.Ab
theorem Feed.extCX {b : Nat} {h h' : Heap} {bf k : Nat} (f : Feed h bf k) (x : ExtC b h h') (hm : h.isM b = false) (hn : h.n0 ≤ b) : Feed h' bf k := by
  obtain ⟨L, a, xs, h1, h2, h3, h4, h5, h6⟩ := f
  have ap : Apart h b L := fun c hc => by
    have := h6 c hc
    refine ⟨by omega, fun r _ q => ?_⟩
    have := Heap.cls_eq q
    omega
  exact ⟨L, a, xs, h1.extC x hm, h2, h3, h4.extC (fun q => q) x ap, h5, by rw [x.n0]; exact h6⟩
end Go.Proofs.Ytooeiefgnhgbeaa

/-! What precentorhand's Filters tell. -/
namespace Go.Proofs.Ytooeiefgnhgbeaa
open Go.Ab

section
variable {X : XTab}

theorem FilterC (hX : OnlyKnown X) {h : Heap} {v : AVal} {fl : List Prd} (o : Sl prR h v fl) (hl : fl.length ≤ 1000) (hs : ∀ p, p ∈ fl → p.set.length ≤ 1000) :
    Tells (fun q => acallX Try.prog X q F_precentorhand_Filter [v] h) fun r h' => RowZ prF h.next h h' r fl ∧ Ext [] h h' := by
  refine R_precentorhand_Filter _ (hX _ _ rfl) ?_
  refine Tells.prot fun Q' hQ => ?_
  unfold S_precentorhand_Filter
  try simp
  refine Tells.bind (Tells.loop (fun n t g => ∃ i : Nat, t 0 = v ∧ t 4 = I i ∧ i + n = fl.length ∧ RowZ prF h.next h g (t 3) (fl.take i) ∧ Ext [] h g)
    (Q := fun p g => p.1 = .exit 0 ∧ RowZ prF h.next h g (p.2 3) fl ∧ Ext [] h g) ?_ fl.length _ _ ⟨0, by simp, by simp, by omega, by simpa using RowZ.nil, .refl⟩) ?_
  · rintro n t g ⟨i, t0, t4, hi, rz, xg⟩
    refine Tells.prot fun Q2 hQ2 => ?_
    unfold L_precentorhand_Filter_1
    have og := o.ext xg
    simp [t4, t0, og.len]
    refine Tells.cb (fun hc => ?_) (fun hc => ?_)
    · simp at hc
      obtain ⟨p, hp⟩ : ∃ p, fl[i]? = some p := ⟨_, List.getElem?_eq_getElem hc⟩
      have hps := hs p (List.mem_of_getElem? hp)
      obtain ⟨b, q, B, c, q1, q2, sv, rfl, os, _⟩ := og.at (n := 13) rfl (i := (i : Int)) (by omega) (by simpa using hp)
      have w : IntKind.i64.wrap ((i : Int) + 1) = i + 1 := wrap_id (by omega) (by omega)
      have q4 := q2.lda (n := 13) rfl
      have tk : fl.take (i + 1) = fl.take i ++ [p] := by rw [List.take_add_one, hp]; rfl
      simp [J_precentorhand_Filter_2, t0, t4, q1, q4]
      refine Tells.newSt (ds := prC p sv) (by rfl) (by rfl) (by rfl) (by simp [prC, vlC, os.one]) fun g1 bp op x1 l1 => ?_
      simp [prC, vlC, op.1]
      refine Tells.copy (os.ext x1) (by rfl) (by omega) (by decide) fun s2 g2 gs x2 w2 => ?_
      have op2 := op.e x2
      have rz2 := (rz.e x1).e x2
      try simp
      refine Tells.st1 op2 gs.1.cells gs.1.one (by simp [prC, vlC]) fun g3 op3 x3 => ?_
      have op3 : Ob g3 bp (prC p s2) := by simpa [prC, vlC] using op3
      have rz3 := rz2.extO x3 (by simpa using .inl op2.2.1)
      have n1 := xg.next
      have n2 := x1.next
      have n3 := x2.next
      have n4 := x3.next
      simp [op3.1, prC, vlC]
      refine Tells.appZ rz3 (by rfl) (by rfl) (x := p) (c := prC p s2) ⟨s2, rfl, gs.1.ext x3, fun d hd => ⟨?_, ?_⟩⟩ (by rfl) (by rfl) (by simp; omega) (by decide) (by omega) fun s4 g4 rz4 x4 y4 => ?_
      · rintro ⟨d', hd', e⟩
        have k1 := (w2 d hd).1
        rw [root_ext x3 (w2 d hd).2.2, root_ext x3 (by have := (rz2.1 d' hd').2.2; omega)] at e
        have k2 := root_le g2 d'
        have k3 := (rz.1 d' hd').2.2
        omega
      · have k1 := (w2 d hd).1
        rw [root_ext x3 (w2 d hd).2.2]
        omega
      · simp [J_precentorhand_Filter_3, t4, w]
        refine Tells.ok (hQ2 _ _ (.inl ⟨rfl, n - 1, by omega, i + 1, by simp [t0], by simp, by omega, by rw [tk]; simpa using rz4, ?_⟩))
        exact y4 [] (((xg.trans x1).trans x2).then x3 fun z hz => .inr (by simp at hz; omega))
    · simp at hc
      have hfl : fl.take i = fl := List.take_of_length_le (by omega)
      rw [hfl] at rz
      exact Tells.ok (hQ2 _ _ (.inr ⟨by simp, rfl, by simpa using rz, xg⟩))
  · rintro ⟨ex, t⟩ g ⟨rfl, rz, xg⟩
    simp [J_precentorhand_Filter_0]
    exact Tells.ok (hQ _ _ ⟨by simpa using rz, xg⟩)

/-- Names that do not fall. -/
def nmLe (a b : ByteArray) : Bool := Op.bytesLess a.toList b.toList || a.toList == b.toList
theorem nm_total : ∀ a, a ∈ names4 → ∀ b, b ∈ names4 → nmLe a b = false → nmLe b a = true := by decide +kernel
theorem nm_trans : ∀ a, a ∈ names4 → ∀ b, b ∈ names4 → ∀ c, c ∈ names4 → nmLe a b = true → nmLe b c = true → nmLe a c = true := by decide +kernel
def FedF (fl : List Prd) : Prop := fl.length ≤ 3 ∧ (∀ p, p ∈ fl → FedP p) ∧ fl.Pairwise fun p q => nmLe p.name q.name = true
theorem FedF.nil : FedF [] := ⟨by simp, by simp, by simp⟩
theorem FedP.set_le {p : Prd} (h : FedP p) : p.set.length ≤ 4 := by
  obtain ⟨_, h | h | h | h | h⟩ := h
  · rw [h.2.2.2]; simp
  · rw [h.2.2.2]; simp
  · exact h.2.2.2.2.1
  · rw [h.2.2.2]; simp
  · rw [h.2.2.2.2]; simp
/-- One more, in its place. -/
theorem FedF.ins {l : List Prd} {p : Prd} {j : Nat} (h : FedF l) (hp : FedP p) (h2 : l.length < 3) (hj : j ≤ l.length) (hi : ∀ x, x ∈ l.drop j → nmLe x.name p.name = false) (lo : 0 < j → ∀ x, l[j - 1]? = some x → nmLe x.name p.name = true) : FedF (l.take j ++ p :: l.drop j) := by
  obtain ⟨k1, k2, k3⟩ := h
  have up : ∀ x, x ∈ l.drop j → nmLe p.name x.name = true := fun x hx => nm_total _ (k2 x (List.mem_of_mem_drop hx)).1 _ hp.1 (hi x hx)
  have dn : ∀ x, x ∈ l.take j → nmLe x.name p.name = true := fun x hx => by
    by_cases h0 : 0 < j
    · have hlt : j - 1 < l.length := by omega
      have hl := List.getElem?_eq_getElem hlt
      have h3 := lo h0 _ hl
      obtain ⟨m, hm, e⟩ := List.getElem_of_mem hx
      simp at hm
      rw [List.getElem_take] at e
      by_cases hmj : m = j - 1
      · subst hmj; rw [← e]; exact h3
      · have := List.pairwise_iff_getElem.1 k3 m (j - 1) (by omega) hlt (by omega)
        rw [e] at this
        exact nm_trans _ (k2 x (List.mem_of_mem_take hx)).1 _ (k2 _ (List.getElem_mem hlt)).1 _ hp.1 this h3
    · have : j = 0 := by omega
      subst this
      simp at hx
  refine ⟨by simp; omega, fun x hx => ?_, ?_⟩
  · rcases List.mem_append.1 hx with q | q
    · exact k2 x (List.mem_of_mem_take q)
    · rcases List.mem_cons.1 q with q | q
      · rw [q]; exact hp
      · exact k2 x (List.mem_of_mem_drop q)
  · rw [List.pairwise_append]
    refine ⟨k3.take, List.pairwise_cons.2 ⟨up, k3.drop⟩, fun a ha b hb => ?_⟩
    rcases List.mem_cons.1 hb with q | q
    · rw [q]; exact dn a ha
    · rw [← List.take_append_drop j l, List.pairwise_append] at k3
      exact k3.2.2 a ha b q
theorem ins_list {α : Type} {l : List α} {z p : α} {j : Nat} (hj : j ≤ l.length) : ((l ++ [z]).take (j + 1) ++ ((l ++ [z]).drop j).take ((l ++ [z]).length - (j + 1))).set j p = l.take j ++ p :: l.drop j := by
  have e1 : ((l ++ [z]).drop j).take ((l ++ [z]).length - (j + 1)) = l.drop j := by
    rw [List.drop_append_of_le_length hj, List.take_append_of_le_length (by simp), List.take_of_length_le (by simp)]
  have e2 : ((l ++ [z]).take (j + 1)).length = j + 1 := by simp; omega
  have e3 : ((l ++ [z]).take (j + 1)).drop (j + 1) = [] := List.drop_eq_nil_of_le (by omega)
  rw [e1, List.set_append, if_pos (by omega), List.set_eq_take_append_cons_drop, if_pos (by omega), e3, List.take_take, Nat.min_eq_left (by omega), List.take_append_of_le_length hj]
  simp

def zeroP : Prd := ⟨bs [], 0, vlZ, vlZ, []⟩

theorem FilterH (hX : OnlyKnown X) {h : Heap} {bf k : Nat} (f : Feed h bf k) (hk : k < 2 ^ 59) :
    Tells (fun q => acallX Try.prog X q F_precentorhand_Feed_Filter [.ptr bf 0] h) fun r h' => ∃ fl, RowZ prF h.next h h' r fl ∧ FedF fl ∧ Ext [bf] h h' ∧ Feed h' bf (k + 60) := by
  refine R_precentorhand_Feed_Filter _ (hX _ _ rfl) ?_
  refine Tells.prot fun Q' hQ => ?_
  unfold S_precentorhand_Feed_Filter
  try simp
  refine Tells.bind (Next hX 4 ⟨by decide, by decide⟩ f (by omega)) ?_
  rintro _ h1 ⟨u, rfl, u0, u1, _, x1, f1⟩
  have u1 := u1 (by decide)
  have n1 := x1.next
  try simp
  refine Tells.bind (Tells.loop (fun n t g => ∃ (i : Nat) (l : List Prd), t 0 = .ptr bf 0 ∧ t 4 = I (u - i) ∧ (i : Int) ≤ u ∧ i + n = 5 ∧ RowZ prF h.next h g (t 3) l ∧ FedF l ∧ Ext [bf] h g ∧ Feed g bf (k + 1 + 14 * i))
    (Q := fun p g => p.1 = .exit 0 ∧ ∃ l : List Prd, RowZ prF h.next h g (p.2 3) l ∧ FedF l ∧ Ext [bf] h g ∧ Feed g bf (k + 60)) ?_ 5 _ _ ⟨0, [], by simp, by simp, by simp; omega, by omega, by simpa using RowZ.nil, FedF.nil, x1, by simpa using f1⟩) ?_
  · rintro n t g ⟨i, l, t0, t4, hiu, hi, rz, fl, xg, fg⟩
    refine Tells.prot fun Q2 hQ2 => ?_
    unfold L_precentorhand_Feed_Filter_1
    have ng := xg.next
    by_cases hc : 0 < u - i ∧ l.length < 3
    · obtain ⟨hc1, hc2⟩ := hc
      have hc3 : (i : Int) < u := by omega
      have hc4 : ((l.length : Int) < 3) := by omega
      simp [t4, hc1, hc3, rz.len, hc4, hc2, J_precentorhand_Feed_Filter_2, t0]
      refine Tells.bind (NameH hX fg (by omega)) ?_
      rintro _ g1 ⟨nm, rfl, hnm, y1, e1⟩
      have rz1 := rz.extO y1 (by simpa using .inl fg.m)
      have m1 := y1.next
      try simp [t0]
      refine Tells.bind (PredH hX e1 (by omega) hnm) ?_
      rintro _ g2 ⟨p, sv, rfl, hpn, hp, os, ws, y2, e2⟩
      have rz2 := rz1.extO y2 (by simpa using .inl e1.m)
      have m2 := y2.next
      try simp
      refine Tells.newSt (ds := prC p sv) (by rfl) (by rfl) (by rfl) (by simp [prC, vlC, os.one]) fun g3 bp op y3 l3 => ?_
      have rz3 := rz2.e y3
      have m3 := y3.next
      have hne : bf ≠ bp := by have := e2.lt; omega
      have e3 := e2.e y3
      have os3 := os.ext y3
      have X3 : Ext [bf] h g3 := ((xg.trans y1).trans y2).quiet y3
      have svn : ∀ d, d ∈ sv.blks → ¬ g3.isRoot (t 3) (g3.root d) ∧ h.next ≤ g3.root d ∧ g3.root d < g3.next := fun d hd => by
        obtain ⟨w1, w2, w3⟩ := ws d hd
        rw [root_ext y3 w3]
        have := root_le g2 d
        refine ⟨?_, by omega, by omega⟩
        rintro ⟨d', hd', e⟩
        have k3 := (rz1.1 d' hd').2.2
        rw [root_ext y3 (by omega), root_ext y2 k3] at e
        have k2 := root_le g1 d'
        omega
      try simp only [rz3.len, of_some, arb_val, lt_eq]
      try simp
      refine Tells.bind (Tells.loop (fun n t' g' => g' = g3 ∧ ∃ j : Nat, t' 0 = .ptr bf 0 ∧ t' 3 = t 3 ∧ t' 4 = I (u - i) ∧ t' 5 = .str nm ∧ t' 6 = .ptr bp 0 ∧ t' 7 = I j ∧ j = n ∧ j ≤ l.length ∧ ∀ x, x ∈ l.drop j → nmLe x.name nm = false)
        (Q := fun r g' => g' = g3 ∧ r.1 = .exit 2 ∧ ∃ j : Nat, r.2 0 = .ptr bf 0 ∧ r.2 3 = t 3 ∧ r.2 4 = I (u - i) ∧ r.2 5 = .str nm ∧ r.2 6 = .ptr bp 0 ∧ r.2 7 = I j ∧ j ≤ l.length ∧ (∀ x, x ∈ l.drop j → nmLe x.name nm = false) ∧ (0 < j → ∀ x, l[j - 1]? = some x → nmLe x.name nm = true)) ?_ l.length _ _ ⟨rfl, l.length, by simp [t0], by simp, by simp [t4], by simp, by simp, by simp, rfl, Nat.le_refl _, by simp⟩) ?_
      · rintro n' t' g' ⟨rfl, j, a0, a3, a4, a5, a6, a7, rfl, hj, hall⟩
        refine Tells.prot fun Q3 hQ3 => ?_
        unfold L_precentorhand_Feed_Filter_5
        by_cases h0 : 0 < j
        · obtain ⟨x, hx⟩ : ∃ x, l[j - 1]? = some x := ⟨_, List.getElem?_eq_getElem (by omega)⟩
          obtain ⟨b, q, B, c, q1, q2, sv', rfl, _⟩ := rz3.at (n := 13) rfl hx
          have w : IntKind.i64.wrap ((j : Int) - 1) = ((j - 1 : Nat) : Int) := by rw [wrap_id (by omega) (by omega)]; omega
          have q4 := q2.cell0 (by simp [prC])
          simp [prC] at q4
          have h0' : (0 : Int) < j := by omega
          simp [a7, h0, h0', a3, w, q1, q2.get, q4, a5]
          cases hle : nmLe x.name nm with
          | false =>
            have hle2 : (Op.bytesLess x.name.toList nm.toList || x.name.toList == nm.toList) = false := hle
            simp only [Bool.or_eq_false_iff] at hle2
            simp [hle2.1, hle2.2, J_precentorhand_Feed_Filter_6, a7, w]
            refine Tells.ok (hQ3 _ _ (.inl ⟨rfl, j - 1, by omega, rfl, j - 1, by simp [a0], by simp [a3], by simp [a4], by simp [a5], by simp [a6], by simp, rfl, by omega, fun z hz => ?_⟩))
            rw [List.drop_eq_getElem_cons (by omega), List.mem_cons] at hz
            rcases hz with q | q
            · rw [(List.getElem?_eq_some_iff.1 hx).2] at q
              rw [q]; exact hle
            · rw [show j - 1 + 1 = j by omega] at q
              exact hall z q
          | true =>
            have hle2 : (Op.bytesLess x.name.toList nm.toList || x.name.toList == nm.toList) = true := hle
            have done : ∀ t2 : T, t2 0 = t' 0 → t2 3 = t' 3 → t2 4 = t' 4 → t2 5 = t' 5 → t2 6 = t' 6 → t2 7 = t' 7 → Q3 (.exit 2, t2) g' := fun t2 b0 b3 b4 b5 b6 b7 => hQ3 _ _ (.inr ⟨by simp, rfl, rfl, j, b0.trans a0, b3.trans a3, b4.trans a4, b5.trans a5, b6.trans a6, b7.trans a7, hj, hall, fun _ z hz => by rw [hx] at hz; cases hz; exact hle⟩)
            rcases Bool.or_eq_true _ _ ▸ hle2 with q | q
            · simp [q]
              exact Tells.ok (done _ (by simp) (by simp) (by simp) (by simp) (by simp) (by simp))
            · simp [q]
              exact Tells.ok (done _ (by simp) (by simp) (by simp) (by simp) (by simp) (by simp))
        · have h0' : ¬ (0 : Int) < j := by omega
          simp [a7, h0, h0']
          exact Tells.ok (hQ3 _ _ (.inr ⟨by simp, rfl, rfl, j, by simp [a0], by simp [a3], by simp [a4], by simp [a5], by simp [a6], by simp [a7], hj, hall, fun q => absurd q h0⟩))
      · rintro ⟨ex, t'⟩ g' ⟨rfl, rfl, j, a0, a3, a4, a5, a6, a7, hj, hall, hlo⟩
        have a0 : t' 0 = .ptr bf 0 := a0
        have a3 : t' 3 = t 3 := a3
        have a4 : t' 4 = I (u - i) := a4
        have a6 : t' 6 = .ptr bp 0 := a6
        have a7 : t' 7 = I j := a7
        rw [← a3] at rz3 svn
        have wj : IntKind.i64.wrap ((j : Int) + 1) = (j : Int) + 1 := wrap_id (by omega) (by omega)
        have wu : IntKind.i64.wrap (u - (i : Int) - 1) = u - (i : Int) - 1 := wrap_id (by omega) (by omega)
        simp [J_precentorhand_Feed_Filter_4, bldR, fillR, splice]
        refine Tells.appZR rz3 (by rfl) (by rfl) (x := zeroP) (c := prC zeroP .nils) ⟨.nils, rfl, Sl.nil, fun c hc => by simp [AVal.blks] at hc⟩ (by rfl) (by rfl) (by omega) (by decide) (by omega) fun s4 g4 rz4 y4 z4 nr4 => ?_
        have m4 := y4.next
        have op4 := op.ext y4 (rz3.2.1.ob op)
        have e4 := e3.ext y4 (fun q => by have := (rz3.2.1.blk _ q).1; rw [e3.m] at this; cases this)
        have X4 := z4 [bf] X3
        obtain ⟨b5, d5, c5, v5, k1, k2, k3, k4, k5, g5, r5, k6, k7, rz5⟩ := rz4.cpy (n := 13) rfl (i := j) (by simp; omega)
        simp [a7, wj, k4, k5, k6]
        have op5 : Ob g5 bp (prC p sv) := op4.extC k7 k1
        have e5 := e4.extCX k7 k1 k3
        have os4 := os3.ext y4
        have ap5 : Apart g4 b5 sv := Apart.of fun c hc q => by
          obtain ⟨s1, s2, s3⟩ := svn c hc
          refine nr4 _ s3 s1 ⟨b5, by rw [v5]; simp, ?_⟩
          rw [← q, root_ext y4 (os3.blk c hc).2]
        have os5 : Sl vlR g5 sv p.set := os4.extC (fun q => q) k7 ap5
        have rep5 : (prF.r fun q => ¬ g5.isRoot s4 q ∧ h.next ≤ q).rep g5 (prC p sv) p := ⟨sv, rfl, os5, fun c hc => by
          obtain ⟨s1, s2, s3⟩ := svn c hc
          have er : g5.root c = g'.root c := by
            unfold Heap.root
            rw [k7.cls, y4.cls c (os3.blk c hc).2]
          rw [er]
          refine ⟨fun ⟨d, hd, e⟩ => nr4 _ s3 s1 ⟨d, hd, ?_⟩, s2⟩
          rw [e]
          unfold Heap.root
          rw [k7.cls]⟩
        obtain ⟨b6, q6, v6, i1, i2, i3, i4, i5, g6, i6, i7, rz6⟩ := rz5.putE (n := 13) rfl (i := j) (by simp; omega) rep5
        rw [ins_list hj] at rz6
        simp [a6, op5.1, a7, i5, i6 (.agg (prC p sv)) rfl, prC, vlC]
        have i6' := i6 (.agg (prC p sv)) rfl
        simp only [prC, vlC, List.cons_append, List.nil_append] at i6'
        simp [i6', J_precentorhand_Feed_Filter_3, a4, wu]
        have F6 : FedF (l.take j ++ p :: l.drop j) := fl.ins hp hc2 hj (by rw [hpn]; exact hall) (by rw [hpn]; exact hlo)
        refine Tells.ok (hQ2 _ _ (.inl ⟨rfl, n - 1, by omega, i + 1, _, by simp [a0], by simp; omega, by omega, by omega, by simpa using rz6, F6, (X4.extC k7 k2).extC i7 i3, (e5.extCX i7 i1 i4).mono (by omega)⟩))
    · have fin : ∀ t' : T, t' 3 = t 3 → Q2 (.exit 0, t') g := fun t' a3 => hQ2 _ _ (.inr ⟨by simp, rfl, l, by show RowZ prF h.next h g (t' 3) l; rw [a3]; exact rz, fl, xg, fg.mono (by omega)⟩)
      by_cases q : 0 < u - (i : Int)
      · have q2 : ¬ (l.length < 3) := fun k => hc ⟨q, k⟩
        have q3 : ¬ ((l.length : Int) < 3) := by omega
        have q4 : (i : Int) < u := by omega
        simp [t4, q, q4, rz.len, q2, q3]
        exact Tells.ok (fin _ (by simp))
      · have q4 : ¬ (i : Int) < u := by omega
        simp [t4, q, q4]
        exact Tells.ok (fin _ (by simp))
  · rintro ⟨ex, t⟩ g ⟨rfl, l, rz, fl, xg, fg⟩
    simp [J_precentorhand_Feed_Filter_0]
    exact Tells.ok (hQ _ _ ⟨l, by simpa using rz, fl, xg, fg⟩)
end
end Go.Proofs.Ytooeiefgnhgbeaa

/-! What precentorhand's Subs tells. -/
namespace Go.Proofs.Ytooeiefgnhgbeaa
open Go.Ab

/-- Rows of filters. -/
def flR : Rp (List Prd) := ⟨1, by decide, fun h cs fl => ∃ v, cs = [v] ∧ Sl prR h v fl, fun ⟨v, e, _⟩ => by rw [e]; rfl, fun ⟨v, e, o⟩ => by rw [e]; simp [o.one], fun ⟨v, e, o⟩ x => ⟨v, e, o.ext x⟩⟩

def Sx.lt (s s' : Sx) : Prop := s.c < s'.c ∨ (s.c = s'.c ∧ s.n < s'.n ∧ s.b = s'.b)
/-- Subscriptions that the feed tells; m: the brokers' greatest number. -/
structure FedS (m : Int) (l : List Sx) : Prop where
  f : ∀ s, s ∈ l → FedF s.fl ∧ 1 ≤ s.c ∧ s.c ≤ 6 ∧ 0 ≤ s.b ∧ s.b ≤ m ∧ 1 ≤ s.n ∧ s.n ≤ 6
  r : l.Pairwise Sx.lt
  t : ∀ (i : Nat) s s', l[i]? = some s → l[i + 3]? = some s' → s.c < s'.c
theorem FedS.nil (m : Int) : FedS m [] := ⟨by simp, by simp, by simp⟩

/-- While client c's are told: those of clients ahead, and its own. -/
structure FedQ (m : Int) (c b n : Int) (k : Nat) (l : List Sx) : Prop where
  s : FedS m l
  q : ∃ pre cur, l = pre ++ cur ∧ (∀ x, x ∈ pre → x.c < c) ∧ (∀ x, x ∈ cur → x.c = c ∧ x.b = b ∧ x.n ≤ n) ∧ cur.length = k
theorem FedQ.start {m c b : Int} {l : List Sx} (h : FedS m l) (hl : ∀ x, x ∈ l → x.c < c) : FedQ m c b 0 0 l := ⟨h, l, [], by simp, hl, by simp, rfl⟩
theorem FedQ.add {m c b n : Int} {k : Nat} {l : List Sx} (h : FedQ m c b n k l) (hk : k < 3) (hn : 0 ≤ n) (hc : 1 ≤ c ∧ c ≤ 6) (hb : 0 ≤ b ∧ b ≤ m) {n' : Int} (h1 : n < n') (h2 : n' ≤ 6) {fl : List Prd} (hf : FedF fl) : FedQ m c b n' (k + 1) (l ++ [⟨c, b, n', fl⟩]) := by
  obtain ⟨⟨s1, s2, s3⟩, pre, cur, rfl, q1, q2, q3⟩ := h
  refine ⟨⟨fun x hx => ?_, ?_, fun i x x' hx hx' => ?_⟩, pre, cur ++ [⟨c, b, n', fl⟩], by simp, q1, fun x hx => ?_, by simp; omega⟩
  · rcases List.mem_append.1 hx with q | q
    · exact s1 x q
    · simp at q; subst q; exact ⟨hf, hc.1, hc.2, hb.1, hb.2, by show 1 ≤ n'; omega, h2⟩
  · rw [List.pairwise_append]
    refine ⟨s2, by simp, fun x hx y hy => ?_⟩
    simp at hy
    subst hy
    rcases List.mem_append.1 hx with q | q
    · exact .inl (q1 x q)
    · obtain ⟨k1, k2, k3⟩ := q2 x q
      exact .inr ⟨k1, by show x.n < n'; omega, k2⟩
  · rcases Nat.lt_or_ge (i + 3) (pre ++ cur).length with q | q
    · rw [List.getElem?_append_left q] at hx'
      rw [List.getElem?_append_left (by omega)] at hx
      exact s3 i x x' hx hx'
    · rw [List.getElem?_append_right q] at hx'
      have e : i + 3 - (pre ++ cur).length = 0 := by
        cases h : i + 3 - (pre ++ cur).length with
        | zero => rfl
        | succ j => rw [h] at hx'; simp at hx'
      rw [e] at hx'
      simp at hx'
      subst hx'
      have hlen : (pre ++ cur).length = pre.length + cur.length := by simp
      rw [List.getElem?_append_left (by omega), List.getElem?_append_left (by omega)] at hx
      exact q1 x (List.mem_of_getElem? hx)
  · rcases List.mem_append.1 hx with q | q
    · obtain ⟨k1, k2, k3⟩ := q2 x q
      exact ⟨k1, k2, by omega⟩
    · simp at q; subst q; exact ⟨rfl, rfl, Int.le_refl _⟩
theorem FedQ.fin {m c b n : Int} {k : Nat} {l : List Sx} (h : FedQ m c b n k l) : FedS m l ∧ ∀ x, x ∈ l → x.c < c + 1 := by
  obtain ⟨s, pre, cur, rfl, q1, q2, q3⟩ := h
  refine ⟨s, fun x hx => ?_⟩
  rcases List.mem_append.1 hx with q | q
  · have := q1 x q; omega
  · have := (q2 x q).1; omega

section
variable {X : XTab}

theorem RowZ.freshR {h0 h1 h h' : Heap} {s v : AVal} {l : List Sx} {fl : List Prd} (rz : RowZ sxF h0.next h0 h s l) (rv : RowZ prF h1.next h1 h' v fl) (x : Ext [] h h') (hs : ∀ b, b ∈ s.blks → b < h1.next) (hl : h0.next ≤ h1.next) :
    Sl (prZ fun q => ¬ h'.isRoot s q ∧ h0.next ≤ q) h' v fl ∧ ∀ c, c ∈ v.blks → ¬ h'.isRoot s (h'.root c) ∧ h0.next ≤ h'.root c := by
  have key : ∀ q, h1.next ≤ q → ¬ h'.isRoot s q ∧ h0.next ≤ q := fun q hq => ⟨by
    rintro ⟨b, hb, rfl⟩
    have := root_le h' b
    have := hs b hb
    omega, by omega⟩
  exact ⟨rv.2.1.fam prF fun q _ z => key q z.2, fun c hc => key _ (rv.1 c hc).1⟩

theorem SubsH (hX : OnlyKnown X) {h : Heap} {bf k : Nat} (f : Feed h bf k) (hk : k < 2 ^ 57) {pv : AVal} {ps : List Int} (op : Sl intR h pv ps) (hp : ps.length ≤ 7) :
    Tells (fun q => acallX Try.prog X q F_precentorhand_Feed_Subs [.ptr bf 0, pv] h) fun r h' => ∃ l, RowZ sxF h.next h h' r l ∧ FedS ps.length l ∧ l.length ≤ 18 ∧ Ext [bf] h h' ∧ Feed h' bf (k + 1300) := by
  refine R_precentorhand_Feed_Subs _ _ (hX _ _ rfl) ?_
  refine Tells.prot fun Q' hQ => ?_
  unfold S_precentorhand_Feed_Subs
  try simp
  refine Tells.bind (FilterH hX f (by omega)) ?_
  rintro v1 h1 ⟨f1, rz1, ff1, x1, e1⟩
  try simp
  refine Tells.bind (FilterH hX e1 (by omega)) ?_
  rintro v2 h2 ⟨f2, rz2, ff2, x2, e2⟩
  have s1 : Sl prR h2 v1 f1 := rz1.sl.ext x2
  have s2 : Sl prR h2 v2 f2 := rz2.sl
  have s3 : Sl prR h2 .nils [] := Sl.nil
  try simp
  refine Tells.lit (r := flR) (xs := [f1, f2, []]) (css := [[v1], [v2], [.nils]]) (by rfl) ⟨⟨v1, rfl, s1⟩, ⟨v2, rfl, s2⟩, ⟨.nils, rfl, s3⟩, trivial⟩ (by rfl) (by rfl) (by simp [bslR, fillR, splice, s1.known, s1.cells, s2.known, s2.cells]) fun fv h3 gf x3 _ => ?_
  have e3 := e2.e x3
  have X3 : Ext [bf] h h3 := (x1.trans x2).quiet x3
  have ffs : ∀ (i : Nat) fl, [f1, f2, []][i]? = some fl → FedF fl := fun i fl hi => by
    match i, hi with
    | 0, hi => cases hi; exact ff1
    | 1, hi => cases hi; exact ff2
    | 2, hi => cases hi; exact FedF.nil
    | i + 3, hi => simp at hi
  have n3 := X3.next
  try simp
  refine Tells.bind (Tells.loop (fun n t g => ∃ (i : Nat) (l : List Sx), t 0 = .ptr bf 0 ∧ t 1 = pv ∧ t 6 = fv ∧ t 7 = I ((i : Int) + 1) ∧ i + n = 6 ∧ RowZ sxF h.next h3 g (t 5) l ∧ FedS ps.length l ∧ (∀ x, x ∈ l → x.c < (i : Int) + 1) ∧ l.length ≤ 3 * i ∧ Ext [bf] h3 g ∧ Feed g bf (k + 120 + 194 * i))
    (Q := fun p g => p.1 = .exit 0 ∧ ∃ l : List Sx, RowZ sxF h.next h3 g (p.2 5) l ∧ FedS ps.length l ∧ l.length ≤ 18 ∧ Ext [bf] h3 g ∧ Feed g bf (k + 1300)) ?_ 6 _ _ ⟨0, [], by simp, by simp, by simp, by simp, by omega, by simpa using RowZ.nil, FedS.nil _, by simp, by simp, .refl, by simpa using e3⟩) ?_
  · rintro n t g ⟨i, l, t0, t1, t6, t7, hi, rz, fs, lc, ll, xg, fg⟩
    refine Tells.prot fun Q2 hQ2 => ?_
    unfold L_precentorhand_Feed_Subs_1
    by_cases hc : i < 6
    · have hc' : (i : Int) + 1 ≤ 6 := by omega
      have og := (op.ext X3).ext xg
      have wp : IntKind.i64.wrap ((ps.length : Int) + 1) = ps.length + 1 := wrap_id (by omega) (by omega)
      have wi : IntKind.i64.wrap ((i : Int) + 1 + 1) = (i : Int) + 1 + 1 := wrap_id (by omega) (by omega)
      simp [t7, hc', J_precentorhand_Feed_Subs_2, t0, t1, og.len, wp]
      refine Tells.bind (Next hX ((ps.length : Int) + 1) ⟨by omega, by omega⟩ fg (by omega)) ?_
      rintro _ g1 ⟨home, rfl, hm0, hm1, _, y1, d1⟩
      have hm1 := hm1 (by omega)
      have rz1 := rz.extO y1 (by simpa using .inl fg.m)
      try simp [t0]
      refine Tells.bind (Next hX 4 ⟨by decide, by decide⟩ d1 (by omega)) ?_
      rintro _ g2 ⟨u, rfl, u0, u1, _, y2, d2⟩
      have u1 := u1 (by decide)
      obtain ⟨u, rfl⟩ : ∃ n : Nat, u = n := ⟨u.toNat, by omega⟩
      have rz2 := rz1.extO y2 (by simpa using .inl d1.m)
      have XG2 := (xg.trans y1).trans y2
      try simp
      refine Tells.bind (Tells.loop (fun n t g => ∃ (j : Nat) (num : Int) (l' : List Sx), t 0 = .ptr bf 0 ∧ t 1 = pv ∧ t 6 = fv ∧ t 7 = I ((i : Int) + 1) ∧ t 8 = I home ∧ t 9 = I num ∧ t 10 = I ((u : Int) - j) ∧ j + n = u ∧ 0 ≤ num ∧ num ≤ 2 * j ∧ RowZ sxF h.next h3 g (t 5) l' ∧ FedQ ps.length ((i : Int) + 1) home num j l' ∧ l'.length = l.length + j ∧ Ext [bf] h3 g ∧ Feed g bf (k + 120 + 194 * i + 2 + 64 * j))
        (Q := fun r g => r.1 = .exit 2 ∧ r.2 0 = .ptr bf 0 ∧ r.2 1 = pv ∧ r.2 6 = fv ∧ r.2 7 = I ((i : Int) + 1) ∧ ∃ l' : List Sx, RowZ sxF h.next h3 g (r.2 5) l' ∧ FedS ps.length l' ∧ (∀ x, x ∈ l' → x.c < (i : Int) + 1 + 1) ∧ l'.length ≤ l.length + 3 ∧ Ext [bf] h3 g ∧ Feed g bf (k + 120 + 194 * (i + 1))) ?_ u _ _ ⟨0, 0, l, by simp [t0], by simp [t1], by simp [t6], by simp [t7], by simp, by simp, by simp, by omega, by omega, by omega, by simpa using rz2, FedQ.start fs lc, by simp, XG2, by simpa using d2⟩) ?_
      · rintro n' t' g' ⟨j, num, l', a0, a1, a6, a7, a8, a9, a10, hj, hn0, hn1, rl, fq, hl', xg', fg'⟩
        refine Tells.prot fun Q3 hQ3 => ?_
        unfold L_precentorhand_Feed_Subs_4
        by_cases hc2 : j < u
        · have hc3 : (0 : Int) < (u : Int) - j := by omega
          have hc4 : (j : Int) < u := by omega
          have w1 : IntKind.i64.wrap (num + 1) = num + 1 := wrap_id (by omega) (by omega)
          simp [a10, hc2, hc3, hc4, J_precentorhand_Feed_Subs_5, a9, w1, a0]
          refine Tells.bind (Next hX 2 ⟨by decide, by decide⟩ fg' (by omega)) ?_
          rintro _ g3 ⟨r, rfl, r0, r1, _, y3, d3⟩
          have r1 := r1 (by decide)
          have w2 : IntKind.i64.wrap (num + 1 + r) = num + 1 + r := wrap_id (by omega) (by omega)
          have rl3 := rl.extO y3 (by simpa using .inl fg'.m)
          try simp [w2, a7, a8, a0]
          refine Tells.bind (FilterH hX d3 (by omega)) ?_
          rintro v4 g4 ⟨fl, rf, hfl, y4, d4⟩
          have rl4 := rl3.extO y4 (by simpa using .inl d3.m)
          have m4 := y4.next
          simp [bldR, fillR, splice, rf.2.1.known, rf.2.1.cells]
          refine Tells.newSt (ds := [I ((i : Int) + 1), I home, I (num + 1 + r), v4]) (by rfl) (by rfl) (by rfl) (by simp [rf.2.1.one]) fun g5 bs os y5 l5 => ?_
          have rl5 := rl4.e y5
          have d5 := d4.e y5
          have rf5 := rf.e y5
          have hne : bf ≠ bs := by have := d4.lt; omega
          have m5 := y5.next
          have ng' := xg'.next
          have m3 := y3.next
          have XG5 : Ext [bf] h3 g5 := ((xg'.trans y3).trans y4).quiet y5
          have sl3 : ∀ b, b ∈ (t' 5).blks → b < g3.next := fun b hb => (rl3.1 b hb).2.2
          have w3 : IntKind.i64.wrap ((u : Int) - j - 1) = (u : Int) - j - 1 := wrap_id (by omega) (by omega)
          -- what is appended
          have last : ∀ (t2 : T) (g6 : Heap) (v : AVal) (fl : List Prd) (K : Nat), K ≤ k + 120 + 194 * i + 2 + 64 * (j + 1) → t2 0 = .ptr bf 0 → t2 1 = pv → t2 5 = t' 5 → t2 6 = fv → t2 7 = I ((i : Int) + 1) → t2 8 = I home → t2 9 = I (num + 1 + r) → t2 10 = I ((u : Int) - j) → t2 11 = .ptr bs 0 → Ob g6 bs [I ((i : Int) + 1), I home, I (num + 1 + r), v] → FedF fl →
              RowZ sxF h.next h3 g6 (t' 5) l' → Sl (prZ fun q => ¬ g6.isRoot (t' 5) q ∧ h.next ≤ q) g6 v fl → (∀ c, c ∈ v.blks → ¬ g6.isRoot (t' 5) (g6.root c) ∧ h.next ≤ g6.root c) → Ext [bf] h3 g6 → Feed g6 bf K →
              Tells (fun m => J_precentorhand_Feed_Subs_7 Try.prog (acallX Try.prog X m) m (blkK 3 (sqK (J_precentorhand_Feed_Subs_6 Try.prog (acallX Try.prog X m) m okK) okK)) t2 g6) Q3 := by
            intro t2 g6 v fl K hK b0 b1 b5 b6 b7 b8 b9 b10 b11 o6 hfl r6 sv nv X6 f6
            simp [J_precentorhand_Feed_Subs_7, b5, b11, o6.1]
            refine Tells.appZ r6 (by rfl) (by rfl) (x := (⟨(i : Int) + 1, home, num + 1 + r, fl⟩ : Sx)) ⟨v, rfl, sv, nv⟩ (by rfl) (by rfl) (by omega) (by decide) X6.next fun s7 g7 r7 y7 z7 => ?_
            simp [J_precentorhand_Feed_Subs_6, b10, w3]
            have f7 := f6.ext y7 (fun q => by have := (r6.2.1.blk _ q).1; rw [f6.m] at this; cases this)
            exact Tells.ok (hQ3 _ _ (.inl ⟨rfl, n' - 1, by omega, j + 1, num + 1 + r, _, by simp [b0], by simp [b1], by simp [b6], by simp [b7], by simp [b8], by simp [b9], by simp; omega, by omega, by omega, by omega, by simpa using r7, fq.add (by omega) hn0 ⟨by omega, by omega⟩ ⟨hm0, by omega⟩ (by omega) (by omega) hfl, by simp; omega, z7 [bf] X6, f7.mono hK⟩))
          try simp [a0]
          refine Tells.bind (Next hX 6 ⟨by decide, by decide⟩ d5 (by omega)) ?_
          rintro _ g6 ⟨z, rfl, z0, z1, _, y6, d6⟩
          have m6 := y6.next
          have os6 := os.ext y6 (by simpa using hne.symm)
          have rl6 := rl5.extO y6 (by simpa using .inl d5.m)
          have rf6 := rf5.extO y6 (by simpa using .inl d5.m)
          have XG6 := XG5.trans y6
          have key : ∀ (gz : Heap) (v : AVal) (fl : List Prd) (hz : Heap), RowZ sxF h.next h3 gz (t' 5) l' → RowZ prF hz.next hz gz v fl → g3.next ≤ hz.next → h.next ≤ hz.next → Sl (prZ fun q => ¬ gz.isRoot (t' 5) q ∧ h.next ≤ q) gz v fl ∧ ∀ c, c ∈ v.blks → ¬ gz.isRoot (t' 5) (gz.root c) ∧ h.next ≤ gz.root c := fun gz v fl hz _ rv h1 h2 => by
            have key : ∀ q, hz.next ≤ q → ¬ gz.isRoot (t' 5) q ∧ h.next ≤ q := fun q hq => ⟨by
              rintro ⟨b, hb, rfl⟩
              have := root_le gz b
              have := sl3 b hb
              omega, by omega⟩
            exact ⟨rv.2.1.fam prF fun q _ z => key q z.2, fun c hc => key _ (rv.1 c hc).1⟩
          by_cases hz : z < 3
          · obtain ⟨z, rfl⟩ : ∃ n : Nat, z = n := ⟨z.toNat, by omega⟩
            obtain ⟨fz, hfz⟩ : ∃ fz, [f1, f2, []][z]? = some fz := ⟨_, List.getElem?_eq_getElem (by simp; omega)⟩
            have gf6 := gf.1.ext XG6
            obtain ⟨b, q, B, c, q1, q2, vz, rfl, oz⟩ := gf6.at (n := 1) rfl (i := (z : Int)) (by omega) (by simpa using hfz)
            have hff := ffs z fz hfz
            have q4 := q2.cell0 (by simp)
            simp at q4
            simp [hz, a6, q1, q2.get, q4]
            refine Tells.bind (FilterC hX oz (by have := hff.1; omega) (fun p hp => by have := (hff.2.1 p hp).set_le; omega)) ?_
            rintro v7 g7 ⟨r7, y7⟩
            have os7 := os6.e y7
            have rl7 := rl6.e y7
            have d7 := d6.e y7
            try simp
            refine Tells.st1 os7 r7.2.1.cells r7.2.1.one (by simp) fun g8 os8 y8 => ?_
            have os8 : Ob g8 bs [I ((i : Int) + 1), I home, I (num + 1 + r), v7] := by simpa using os8
            have rl8 := rl7.extO y8 (by simpa using .inl os7.2.1)
            have r8 := r7.extO y8 (by simpa using .inl os7.2.1)
            have d8 := d7.ext y8 (by simpa using hne)
            have X8 : Ext [bf] h3 g8 := (XG6.quiet y7).then y8 fun z hz => .inr (by simp at hz; omega)
            obtain ⟨k1, k2⟩ := key g8 v7 fz g6 rl8 r8 (by omega) (by omega)
            exact last _ g8 v7 fz _ (by omega) (by simp [a0]) (by simp [a1]) (by simp) (by simp [a6]) (by simp [a7]) (by simp [a8]) (by simp) (by simp [a10]) (by simp) os8 hff rl8 k1 k2 X8 d8
          · simp [hz]
            obtain ⟨k1, k2⟩ := key g6 v4 fl g3 rl6 rf6 (Nat.le_refl _) (by omega)
            exact last _ g6 v4 fl _ (by omega) (by simp [a0]) (by simp [a1]) (by simp) (by simp [a6]) (by simp [a7]) (by simp [a8]) (by simp) (by simp [a10]) (by simp) os6 hfl rl6 k1 k2 XG6 d6
        · have hc3 : ¬ (0 : Int) < (u : Int) - j := by omega
          have hc4 : ¬ (j : Int) < u := by omega
          obtain ⟨z1, z2⟩ := fq.fin
          simp [a10, hc2, hc3, hc4]
          exact Tells.ok (hQ3 _ _ (.inr ⟨by simp, rfl, by simp [a0], by simp [a1], by simp [a6], by simp [a7], l', by simpa using rl, z1, z2, by omega, xg', fg'.mono (by omega)⟩))
      · rintro ⟨ex, t'⟩ g' ⟨rfl, a0, a1, a6, a7, l', rl, z1, z2, hl', xg', fg'⟩
        have a7 : t' 7 = I ((i : Int) + 1) := a7
        have a0 : t' 0 = .ptr bf 0 := a0
        have a1 : t' 1 = pv := a1
        have a6 : t' 6 = fv := a6
        simp [J_precentorhand_Feed_Subs_3, a7, wi]
        exact Tells.ok (hQ2 _ _ (.inl ⟨rfl, n - 1, by omega, i + 1, l', by simp [a0], by simp [a1], by simp [a6], by simp, by omega, by simpa using rl, z1, by intro x hx; have := z2 x hx; omega, by omega, xg', fg'⟩))
    · have hc' : ¬ (i : Int) + 1 ≤ 6 := by omega
      simp [t7, hc']
      exact Tells.ok (hQ2 _ _ (.inr ⟨by simp, rfl, l, by simpa using rz, fs, by omega, xg, fg.mono (by omega)⟩))
  · rintro ⟨ex, t⟩ g ⟨rfl, l, rz, fs, hl, xg, fg⟩
    simp [J_precentorhand_Feed_Subs_0]
    exact Tells.ok (hQ _ _ ⟨l, by simpa using rz.back n3, fs, hl, X3.trans xg, fg⟩)
end
end Go.Proofs.Ytooeiefgnhgbeaa

/-! The package's closed example; pointers beside nil. -/
namespace Go.Proofs.Ytooeiefgnhgbeaa
open Go.Ab

theorem known_X {X : XTab} {F : FuncId} (hk : X F [] = some (.bool true)) (h : Heap) : Tells (fun m => acallX Try.prog X m F [] h) fun a h' => a = .bool true ∧ h' = h :=
  ⟨.bool true, h, ⟨rfl, rfl⟩, 1, fun m hm => by
    obtain ⟨k, rfl⟩ : ∃ k, m = k + 1 := ⟨m - 1, by omega⟩
    simp only [acallX, hk]⟩
theorem ptr_nil {t e : TypeId} (hu : Try.prog.underlying t = some (.pointer e)) (o1 o2 : Operand) (b p : Nat) : aBin Try.prog .eql t o1 o2 (.ptr b p) .nilp = some (.bool false) := by
  simp only [aBin, AVal.toV, aNilCmp, hu, nilRes]
theorem ptr_nil' {t e : TypeId} (hu : Try.prog.underlying t = some (.pointer e)) (o1 o2 : Operand) (b p : Nat) : aBin Try.prog .neq t o1 o2 (.ptr b p) .nilp = some (.bool true) := by
  simp only [aBin, AVal.toV, aNilCmp, hu, nilRes]
end Go.Proofs.Ytooeiefgnhgbeaa

/-! Law SubsOwn: the walk. -/
namespace Go.Proofs.Ytooeiefgnhgbeaa
open Go.Ab

theorem FedF.sz {fl : List Prd} (h : FedF fl) : fl.length ≤ 3 ∧ ∀ p, p ∈ fl → p.set.length ≤ 4 := ⟨h.1, fun p hp => (h.2.1 p hp).set_le⟩
theorem FedS.szx {m : Int} {l : List Sx} (h : FedS m l) : ∀ s, s ∈ l → SzX s := fun s hs => by
  obtain ⟨k1, k2⟩ := (h.f s hs).1.sz
  exact ⟨by omega, fun p hp => by have := k2 p hp; unfold SzP; omega⟩
theorem FedS.szs {m : Int} {l : List Sx} (h : FedS m l) (hl : l.length ≤ 18) : SzS l := ⟨by omega, fun s hs => h.szx s hs⟩
theorem names_turned : ∀ n, n ∈ names4 → (n.toList == (bs [116, 117, 114, 110, 101, 100]).toList) = false := by decide +kernel

section
variable {X : XTab}
theorem root_xC {b : Nat} {h h' : Heap} (x : ExtC b h h') (c : Nat) : h'.root c = h.root c := by unfold Heap.root; rw [x.cls]

/-- All names of a filter of b's are turned. -/
theorem own_turn (hX : OnlyKnown X) {h3 g : Heap} {t : T} {a1 v6 v7 bv fv : AVal} {css : List (List AVal)} {s : Sx} {dss : List (List AVal)} {k : Nat} (t1 : t 1 = a1) (t6 : t 6 = v6) (t7 : t 7 = v7) (t8 : t 8 = bv) (t9 : t 9 = I k) (t10 : t 10 = I 0)
    (X3 : Ext [] h3 g) (sb : SlC g 4 bv css) (hk : css[k]? = some (sxC s fv)) (of_ : Sl (cellR 13 (by decide)) g fv dss) (hl : dss.length ≤ 1000) (nz : ∀ c, c ∈ fv.blks → ¬ g.isRoot bv (g.root c) ∧ h3.next ≤ g.root c) :
    Tells (fun m => loopN (L_precentorlaw11_SubsOwn_14 Try.prog (acallX Try.prog X m) m) m t g) fun r g' => r.1 = .exit 0 ∧ r.2 1 = a1 ∧ r.2 6 = v6 ∧ r.2 7 = v7 ∧ Ext [] h3 g' := by
  refine Tells.loop (fun n t g => ∃ (i : Nat) (dss : List (List AVal)), t 1 = a1 ∧ t 6 = v6 ∧ t 7 = v7 ∧ t 8 = bv ∧ t 9 = I k ∧ t 10 = I i ∧ i + n = dss.length ∧ Ext [] h3 g ∧ SlC g 4 bv css ∧ Sl (cellR 13 (by decide)) g fv dss ∧ dss.length ≤ 1000 ∧ ∀ c, c ∈ fv.blks → ¬ g.isRoot bv (g.root c) ∧ h3.next ≤ g.root c) ?_ dss.length _ _ ⟨0, dss, t1, t6, t7, t8, t9, t10, by omega, X3, sb, of_, hl, nz⟩
  rintro n t g ⟨i, dss, t1, t6, t7, t8, t9, t10, hi, X3, sb, of_, hl, nz⟩
  refine Tells.prot fun Q2 hQ2 => ?_
  unfold L_precentorlaw11_SubsOwn_14
  obtain ⟨b1, p1, B1, q1, q2⟩ := sb.at (i := (k : Int)) (by omega) (by simpa using hk)
  have q3 := q2.cell (k := 3) (by simp [sxC])
  simp [sxC] at q3
  simp [t10, t8, t9, q1, q2.get, q3, of_.len]
  refine Tells.cb (fun hc => ?_) (fun hc => ?_)
  · simp at hc
    obtain ⟨d, hd⟩ : ∃ d, dss[i]? = some d := ⟨_, List.getElem?_eq_getElem hc⟩
    have w : IntKind.i64.wrap ((i : Int) + 1) = i + 1 := wrap_id (by omega) (by omega)
    obtain ⟨bb, p, B, c, k1, k2, k3, k4, k5, k6, k7⟩ := pokeC (r := cellR 13 (by decide)) rfl (fun q => q) of_ (fun b hb => by have := (nz b hb).2; have := root_le g b; have := n0_le h3; have := X3.n0; omega) hd
    obtain ⟨g2, s1, s2, s3, _⟩ := k7 0 (.str (bs [116, 117, 114, 110, 101, 100])) (c.set 0 (.str (bs [116, 117, 114, 110, 101, 100]))) (by decide) (by rfl) (by rfl) ⟨rfl, by rw [List.length_set]; exact k6.2.1, by
      have h1 := k6.2.2
      rw [List.all_eq_true] at h1 ⊢
      intro x hx
      rcases List.mem_or_eq_of_mem_set hx with q | q
      · exact h1 x q
      · rw [q]; rfl⟩
    simp at s1
    have k4 : ixsR 13 fv (.int .i64 (i : Int)) = some (.ptr bb p) := k4
    simp [J_precentorlaw11_SubsOwn_15, t8, t9, t10, q1, q2.get, q3, k4, s1, J_precentorlaw11_SubsOwn_16, w]
    have hz := nz bb (by rw [k1]; simp)
    refine Tells.ok (hQ2 _ _ (.inl ⟨rfl, n - 1, by omega, i + 1, _, by simp [t1], by simp [t6], by simp [t7], by simp [t8], by simp [t9], by simp, by simp; omega, X3.extC s2 hz.2, sb.extC s2 (Apart.of fun c hc q => hz.1 ⟨c, hc, q.symm⟩), s3, by simp; omega, fun c hc => ?_⟩))
    rw [root_xC s2]
    obtain ⟨z1, z2⟩ := nz c hc
    exact ⟨fun ⟨d, hd, e⟩ => z1 ⟨d, hd, by rw [e, root_xC s2]⟩, z2⟩
  · exact Tells.ok (hQ2 _ _ (.inr ⟨by simp, rfl, by simp [t1], by simp [t6], by simp [t7], X3⟩))

/-- The end: nothing of a's is another. -/
theorem own_end (hX : OnlyKnown X) {m : Int} {g : Heap} {t : T} {v6 v7 : AVal} {l : List Sx} (t6 : t 6 = v6) (t7 : t 7 = v7) (oa : Sl sxR g v6 l) (ow : Sl sxR g v7 l) (fs : FedS m l) (hl : l.length ≤ 18) :
    Tells (fun m => J_precentorlaw11_SubsOwn_2 Try.prog (acallX Try.prog X m) m (retK Try.prog [.tmp 4]) t g) fun v _ => v = .bool true := by
  refine Tells.prot fun Q' hQ => ?_
  simp [J_precentorlaw11_SubsOwn_2]
  refine Tells.bind (Tells.loop (fun n t g' => g' = g ∧ ∃ i : Nat, t 6 = v6 ∧ t 7 = v7 ∧ t 13 = I i ∧ i + n = l.length) (Q := fun r g' => r.1 = .exit 4) ?_ l.length _ _ ⟨rfl, 0, by simp [t6], by simp [t7], by simp, by omega⟩) ?_
  · rintro n t g' ⟨rfl, i, t6, t7, t13, hi⟩
    refine Tells.prot fun Q2 hQ2 => ?_
    unfold L_precentorlaw11_SubsOwn_4
    simp [t13, t6, oa.len]
    refine Tells.cb (fun hc => ?_) (fun hc => ?_)
    · simp at hc
      obtain ⟨s, hs⟩ : ∃ s, l[i]? = some s := ⟨_, List.getElem?_eq_getElem hc⟩
      have w : IntKind.i64.wrap ((i : Int) + 1) = i + 1 := wrap_id (by omega) (by omega)
      obtain ⟨b1, p1, B1, c1, q1, q2, f1, rfl, of1, _⟩ := oa.at (n := 4) rfl (i := (i : Int)) (by omega) (by simpa using hs)
      obtain ⟨b2, p2, B2, c2, r1, r2, f2, rfl, of2, _⟩ := ow.at (n := 4) rfl (i := (i : Int)) (by omega) (by simpa using hs)
      have q42 := q2.cell (k := 2) (by simp [sxC])
      have q43 := q2.cell (k := 3) (by simp [sxC])
      have r42 := r2.cell (k := 2) (by simp [sxC])
      simp [sxC] at q42 q43 r42
      have ff := (fs.f s (List.mem_of_getElem? hs)).1
      simp [J_precentorlaw11_SubsOwn_5, t6, t7, t13, q1, q2.get, q42, r1, r2.get, r42, J_precentorlaw11_SubsOwn_7]
      refine Tells.bind (Tells.loop (fun n t g2 => g2 = g' ∧ ∃ j : Nat, t 6 = v6 ∧ t 7 = v7 ∧ t 13 = I i ∧ t 14 = I j ∧ j + n = s.fl.length) (Q := fun r g2 => r.1 = .exit 6 ∧ g2 = g' ∧ r.2 6 = v6 ∧ r.2 7 = v7 ∧ r.2 13 = I i) ?_ s.fl.length _ _ ⟨rfl, 0, by simp [t6], by simp [t7], by simp [t13], by simp, by omega⟩) ?_
      · rintro n t g2 ⟨rfl, j, t6, t7, t13, t14, hj⟩
        refine Tells.prot fun Q3 hQ3 => ?_
        unfold L_precentorlaw11_SubsOwn_8
        simp [t13, t14, t6, q1, q2.get, q43, of1.len]
        refine Tells.cb (fun hc => ?_) (fun hc => ?_)
        · simp at hc
          obtain ⟨p, hp⟩ : ∃ p, s.fl[j]? = some p := ⟨_, List.getElem?_eq_getElem hc⟩
          have w2 : IntKind.i64.wrap ((j : Int) + 1) = j + 1 := wrap_id (by omega) (by have := ff.1; omega)
          obtain ⟨b3, p3, B3, c3, u1, u2, sv, rfl, os, _⟩ := of1.at (n := 13) rfl (i := (j : Int)) (by omega) (by simpa using hp)
          have u3 := u2.cell0 (by simp [prC])
          simp [prC] at u3
          have hn := names_turned _ (ff.2.1 p (List.mem_of_getElem? hp)).1
          simp [J_precentorlaw11_SubsOwn_9, t13, t14, t6, q1, q2.get, q43, u1, u2.get, u3, hn, J_precentorlaw11_SubsOwn_10, w2]
          exact Tells.ok (hQ3 _ _ (.inl ⟨rfl, n - 1, by omega, rfl, j + 1, by simp [t6], by simp [t7], by simp [t13], by simp, by omega⟩))
        · exact Tells.ok (hQ3 _ _ (.inr ⟨by simp, rfl, rfl, by simp [t6], by simp [t7], by simp [t13]⟩))
      · rintro ⟨ex, t'⟩ g2 ⟨rfl, rfl, a6, a7, a13⟩
        have a6 : t' 6 = v6 := a6
        have a7 : t' 7 = v7 := a7
        have a13 : t' 13 = I i := a13
        simp [J_precentorlaw11_SubsOwn_6, a13, w]
        exact Tells.ok (hQ2 _ _ (.inl ⟨rfl, n - 1, by omega, rfl, i + 1, by simp [a6], by simp [a7], by simp, by omega⟩))
    · exact Tells.ok (hQ2 _ _ (.inr ⟨by simp, rfl⟩))
  · rintro ⟨ex, t'⟩ g2 rfl
    simp [J_precentorlaw11_SubsOwn_3]
    exact Tells.ok (hQ _ _ rfl)

/-- What Of tells is turned. -/
theorem own_of (hX : OnlyKnown X) {m : Int} {h3 g : Heap} {t : T} {v6 v7 : AVal} {l : List Sx} (t6 : t 6 = v6) (t7 : t 7 = v7) (oa : Sl sxR h3 v6 l) (ow : Sl sxR h3 v7 l) (X3 : Ext [] h3 g) (fs : FedS m l) (hl : l.length ≤ 18) :
    Tells (fun m => J_precentorlaw11_SubsOwn_1 Try.prog (acallX Try.prog X m) m (retK Try.prog [.tmp 4]) t g) fun v _ => v = .bool true := by
  refine Tells.prot fun Q' hQ => ?_
  simp [J_precentorlaw11_SubsOwn_1, t6]
  refine Tells.bind (subs_Of hX (oa.ext X3) (fs.szs hl) 1) ?_
  rintro cv g1 ⟨rc, x1⟩
  have len : (ofL l 1).length ≤ 18 := Nat.le_trans (List.length_filter_le _ _) hl
  have n3 := X3.next
  try simp
  refine Tells.bind (Tells.loop (fun n t g' => ∃ (i : Nat) (cl : List Sx), t 6 = v6 ∧ t 7 = v7 ∧ t 11 = cv ∧ t 12 = I i ∧ i + n = cl.length ∧ cl.length ≤ 18 ∧ RowZ sxF g.next g g' cv cl ∧ Ext [] h3 g') (Q := fun r g' => r.1 = .exit 2 ∧ r.2 6 = v6 ∧ r.2 7 = v7 ∧ Ext [] h3 g') ?_ (ofL l 1).length _ _ ⟨0, ofL l 1, by simp [t6], by simp [t7], by simp, by simp, by omega, len, rc, X3.trans x1⟩) ?_
  · rintro n t g' ⟨i, cl, t6, t7, t11, t12, hi, hcl, rz, xg⟩
    refine Tells.prot fun Q2 hQ2 => ?_
    unfold L_precentorlaw11_SubsOwn_11
    simp [t11, t12, rz.len]
    refine Tells.cb (fun hc => ?_) (fun hc => ?_)
    · simp at hc
      obtain ⟨s, hs⟩ : ∃ s, cl[i]? = some s := ⟨_, List.getElem?_eq_getElem hc⟩
      have w : IntKind.i64.wrap ((i : Int) + 1) = i + 1 := wrap_id (by omega) (by omega)
      obtain ⟨b, p, B, c, k1, k2, k3, k4, k5, k6, k7, ⟨fv, rfl, of_, zf⟩, put⟩ := rz.set1 (n := 4) rfl hs
      obtain ⟨g2, s1, s2, s3⟩ := put 2 (I 77) { s with n := 77 } (by decide) (by rfl) (by rfl) ⟨fv, by simp [sxC], of_, zf⟩
      simp [J_precentorlaw11_SubsOwn_12, t11, t12, k6, s1, J_precentorlaw11_SubsOwn_13, w]
      exact Tells.ok (hQ2 _ _ (.inl ⟨rfl, n - 1, by omega, i + 1, _, by simp [t6], by simp [t7], by simp [t11], by simp, by simp; omega, by simpa using hcl, s3, xg.extC s2 (by omega)⟩))
    · exact Tells.ok (hQ2 _ _ (.inr ⟨by simp, rfl, by simp [t6], by simp [t7], xg⟩))
  · rintro ⟨ex, t'⟩ g' ⟨rfl, a6, a7, xg⟩
    exact (own_end hX (t := t') a6 a7 (oa.ext xg) (ow.ext xg) fs hl).mono fun v _ e => hQ _ _ e

theorem subsOwn_ (hX : OnlyKnown X) (hk : X F_precentorlaw11_known [] = some (.bool true)) {h : Heap} {v1 : AVal} {xs1 : List Int} (r1 : RawInts h v1 xs1) (x : Int) (hx : In64 x) :
    Tells (fun m => acallX Try.prog X m F_precentorlaw11_SubsOwn [v1, I x] h) fun a _ => a = .bool true := by
  refine R_precentorlaw11_SubsOwn _ _ (hX _ _ rfl) ?_
  refine Tells.prot fun Q' hQ => ?_
  unfold S_precentorlaw11_SubsOwn
  simp [bldR, fillR, splice, r1.sl.known, r1.sl.cells]
  refine Tells.box rfl rfl fun h1 bf f1 x1 l1 => ?_
  try simp
  have rr := r1.ext x1
  have fd : Feed h1 bf 0 := ⟨v1, 0, xs1, f1, by omega, by omega, rr.sl, rr.small, rr.old⟩
  refine Tells.bind (SubsH hX fd (by omega) (Sl.nil (r := intR)) (by simp)) ?_
  rintro av h2 ⟨l, ra, fs, hl, x2, f2⟩
  have oa : Sl sxR h2 av l := ra.sl
  try simp
  refine Tells.lit (r := sxR) (xs := []) (css := []) (by rfl) trivial (by rfl) (by rfl) (by rfl) fun v16 h3 g3 x3 _ => ?_
  try simp
  refine Tells.appN g3 (oa.ext x3) (by rfl) (by simp; omega) (by decide) x3.next fun wv h4 g4 x4 y4 _ => ?_
  have X4 := y4 [] x3
  have oa4 : Sl sxR h4 av l := oa.ext X4
  have ow4 : Sl sxR h4 wv l := by simpa using g4.1
  try simp
  refine Tells.bind (subs_Apply hX oa4 (fs.szs hl) (by omega) (Sl.nil (r := cgR)) (by simp) (by simp)) ?_
  rintro bv h5 ⟨rb, x5⟩
  simp only [List.foldl_nil] at rb
  try simp
  refine Tells.bind (known_X hk h5) ?_
  rintro _ h6 ⟨rfl, rfl⟩
  try simp
  refine Tells.bind (subs_Same hX (oa4.ext x5) rb.sl (by omega) fs.szx fs.szx) ?_
  rintro _ h7 ⟨rfl, x7⟩
  have hs := sameL_self sameSx_self l
  have rb7 := rb.e x7
  have X7 := x5.trans x7
  simp [hs, J_precentorlaw11_SubsOwn_0, rb7.len]
  by_cases h0 : 0 < l.length
  · have h0' : (0 : Int) < l.length := by omega
    simp [h0, h0']
    refine Tells.bind (Pick hX x l.length ⟨by omega, by omega⟩ h7) ?_
    rintro _ h8 ⟨rfl, rfl⟩
    have k1 := pick_lo x l.length
    have k2 := pick_hi x l.length (by omega)
    obtain ⟨k, hk2⟩ : ∃ n : Nat, pick x l.length = n := ⟨(pick x l.length).toNat, by omega⟩
    rw [hk2]
    obtain ⟨s, hs⟩ : ∃ s, l[k]? = some s := ⟨_, List.getElem?_eq_getElem (by omega)⟩
    obtain ⟨b, p, B, c, i1, i2, i3, i4, i5, i6, i7, ⟨fv, rfl, of_, zf⟩, put⟩ := rb7.set1 (n := 4) rfl hs
    obtain ⟨g2, s1, s2, s3⟩ := put 2 (I 99) { s with n := 99 } (by decide) (by rfl) (by rfl) ⟨fv, by simp [sxC], of_, zf⟩
    simp [i6, s1]
    have X8 := X7.extC s2 i4
    obtain ⟨css, sc, al⟩ := s3.2.1
    have hkk : (l.set k { s with n := 99 })[k]? = some { s with n := 99 } := by
      have := (List.getElem?_eq_some_iff.1 hs).1
      rw [List.getElem?_set]; simp [this]
    obtain ⟨c, hc, fv', rfl, of', zf'⟩ := al.at hkk
    obtain ⟨dss, d1, d2⟩ := of'
    have ed := reps_each d2
    have sf := (fs.f s (List.mem_of_getElem? hs)).1.1
    have dl := d2.len
    have dl' : dss.length = s.fl.length := dl
    refine Tells.bind (own_turn hX (g := g2) (bv := bv) (fv := fv') (css := css) (dss := dss) (k := k) (s := { s with n := 99 }) (by rfl) (by rfl) (by rfl) (by simp) (by simp) (by simp) X8 sc hc ⟨dss, d1, cells_of (by decide) ed⟩ (by omega) zf') ?_
    rintro ⟨ex, t'⟩ g' ⟨rfl, a1, a6, a7, xg⟩
    refine (own_of hX (t := t') (v6 := av) (v7 := wv) (by simpa using a6) (by simpa using a7) oa4 ow4 xg fs hl).mono fun v _ e => hQ _ _ e
  · have h0' : ¬ (0 : Int) < l.length := by omega
    simp [h0, h0']
    refine (own_of hX (v6 := av) (v7 := wv) (by simp) (by simp) oa4 ow4 X7 fs hl).mono fun v _ e => hQ _ _ e
end
end Go.Proofs.Ytooeiefgnhgbeaa

/-! What the feed tells is right. -/
namespace Go.Proofs.Ytooeiefgnhgbeaa
open Go.Ab

theorem names4_word : ∀ n, n ∈ names4 → wordB n = true ∧ n.size < 2 ^ 63 := by decide +kernel
theorem texts6_size : ∀ s, s ∈ texts6 → s.size ≤ 12 := by decide +kernel
theorem texts4_size : ∀ s, s ∈ texts4 → s.size ≤ 12 := by decide +kernel
theorem ford00 : (ford 0 0 == some .eq) = true := by decide +kernel
theorem rightV_text {s : ByteArray} (h : s.size ≤ 12) : rightV ⟨3, 0, 0, s, false⟩ = true := by simp [rightV, x0B, ford00, h]
theorem rightV_fed {v : Vl} (h : FedV v) : rightV v = true := by
  rcases h with ⟨k, x, s, b, _⟩ | ⟨k, n, _, s, b⟩ | ⟨k, n, x, s, b⟩ | ⟨k, n, x, s⟩
  · simp [rightV, k, x0B, x, ford00, s0B, s, b]
  · simp [rightV, k, n, s0B, s, b]
  · have := texts6_size _ s
    simp [rightV, k, n, x0B, x, ford00, b, this]
  · simp [rightV, k, n, x0B, x, ford00, s0B, s]
theorem zeroB_z : zeroB vlZ = true := sameV_self vlZ
theorem rightP_fed {p : Prd} (h : FedP p) : rightP p = true := by
  obtain ⟨hn, h⟩ := h
  have hw := (names4_word _ hn).1
  rcases h with ⟨t, v, w, s⟩ | ⟨t, ⟨x, hx, v⟩, w, s⟩ | ⟨t, v, w, l1, l2, s⟩ | ⟨t, v, w, s⟩ | ⟨t1, t2, v, w, s⟩
  · simp [rightP, hw, t, v, w, s, zeroB_z]
  · have := rightV_text (texts4_size x hx)
    simp [rightP, hw, t, v, w, s, zeroB_z, this]
  · have : p.set.all rightV = true := List.all_eq_true.2 fun x hx => rightV_fed (s x hx)
    simp only [rightP, hw, t, v, w, zeroB_z, this, decide_eq_true l1, decide_eq_true l2]
    rfl
  · simp [rightP, hw, t, rightV_fed v, rightV_fed w, s]
  · have n1 : ¬ p.test = 1 := by omega
    simp [rightP, hw, n1, t1, t2, rightV_fed v, w, zeroB_z, s]
theorem rightFs_fed : ∀ {l : List Prd} {q : Option ByteArray}, (∀ p, p ∈ l → FedP p) → (l.Pairwise fun p q => nmLe p.name q.name = true) → (∀ n p, q = some n → p ∈ l → nmLe n p.name = true) → rightFs q l = true
  | [], _, _, _, _ => rfl
  | p :: l, q, h1, h2, h3 => by
    obtain ⟨k1, k2⟩ := List.pairwise_cons.1 h2
    have r := rightFs_fed (l := l) (q := some p.name) (fun x hx => h1 x (by simp [hx])) k2 fun n x e hx => by cases e; exact k1 x hx
    unfold rightFs
    rw [r, rightP_fed (h1 p (by simp)), Bool.and_true, Bool.true_and]
    cases q with
    | none => rfl
    | some n => exact h3 n p rfl (by simp)
theorem FedF.right {l : List Prd} (h : FedF l) : rightFl l = true := by
  unfold rightFl
  rw [decide_eq_true h.1, rightFs_fed h.2.1 h.2.2 (by simp)]
  rfl
theorem FedF.szn {l : List Prd} (h : FedF l) : l.length ≤ 1000 ∧ ∀ p, p ∈ l → SzN p := ⟨by have := h.1; omega, fun p hp => ⟨by have := (h.2.1 p hp).set_le; omega, (names4_word _ (h.2.1 p hp).1).2⟩⟩
theorem FedS.right {m : Int} {l : List Sx} (h : FedS m l) (hm : m ≤ 7) : rightS l = true := by
  refine rightS_true fun i hi => ?_
  have hs := List.getElem?_eq_getElem hi
  obtain ⟨k1, k2, k3, k4, k5, k6, k7⟩ := h.f _ (List.mem_of_getElem? hs)
  have hb : mayB l[i] = true := by
    simp only [mayB, decide_eq_true k2, decide_eq_true k3, decide_eq_true k4, decide_eq_true k6, k1.right, Bool.true_and, Bool.and_true]
    simp; omega
  have r1 : ∀ j, j < i → (hj : j < l.length) → Sx.lt l[j] l[i] := fun j hj hjl => List.pairwise_iff_getElem.1 h.r j i hjl hi hj
  simp only [okS, hs, hb, Bool.true_and]
  by_cases h0 : i = 0
  · simp [h0]
  · have e1 := List.getElem?_eq_getElem (show i - 1 < l.length by omega)
    have lt := r1 (i - 1) (by omega) (by omega)
    have c1 : ((decide (l[i - 1].c < l[i].c) || (l[i - 1].c == l[i].c && decide (l[i - 1].n < l[i].n))) && !(l[i - 1].c == l[i].c && l[i - 1].b != l[i].b)) = true := by
      rcases lt with q | ⟨q1, q2, q3⟩
      · have : (l[i - 1].c == l[i].c) = false := beq_eq_false_iff_ne.2 (by omega)
        simp [q, this]
      · simp [q1, q2, q3]
    simp only [h0, if_false, e1, c1, Bool.true_and]
    by_cases h3 : i < 3
    · simp [h3]
    · have e3 := List.getElem?_eq_getElem (show i - 3 < l.length by omega)
      have := h.t (i - 3) _ _ e3 (by rw [show i - 3 + 3 = i by omega]; exact hs)
      simp only [h3, if_false, e3]
      simp; omega
end Go.Proofs.Ytooeiefgnhgbeaa
