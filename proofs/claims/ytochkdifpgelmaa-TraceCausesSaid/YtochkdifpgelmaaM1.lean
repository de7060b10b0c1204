/-
  Texts of a claim, merged: Trc8, TrP, Law25b, Law25c.
-/
import Derived.Test.YtochkdifpgelmaaM0
set_option linter.unusedVariables false
set_option linter.unusedSimpArgs false
/-! What trace's Causes tells. -/
namespace Go.Proofs.Ytochkdifpgelmaa
open Go.Ab

def knF (ks : List (Int × Int)) (z : Int × Int) : Int := if z ∈ ks then 1 else 0
theorem knF_app {ks : List (Int × Int)} {z : Int × Int} : updF (knF ks) z 1 = knF (ks ++ [z]) := by
  funext y
  unfold updF knF
  by_cases q : y = z
  · subst q; simp
  · simp [q]

/-- What has been found so far. -/
structure Fnd (l : List Mk) (h0 g : Heap) (kb : Nat) (vo vt : AVal) (L ks T : List (Int × Int)) : Prop where
  sl : Sl idR g vo L
  rise : Rise2 L
  mem : ∀ z, z ∈ L ↔ z ∈ ks
  len : L.length ≤ ks.length
  gl : Gl idR h0 g vt T
  mp : Mp (kTwo Try.prog 30 two30) g kb ks (knF ks)
  ids : ∀ z, z ∈ ks → z ∈ l.map mid
  base : h0.next ≤ g.next
theorem Fnd.kl {l : List Mk} {h0 g : Heap} {kb : Nat} {vo vt : AVal} {L ks T : List (Int × Int)} (f : Fnd l h0 g kb vo vt L ks T) : ks.length ≤ l.length := by
  have := nodup_sub_len f.mp.nd f.ids
  simpa using this
theorem Fnd.ext {l : List Mk} {h0 g g' : Heap} {kb : Nat} {vo vt : AVal} {L ks T : List (Int × Int)} {S : List Nat} (f : Fnd l h0 g kb vo vt L ks T) (e : Ext S g g') (hk : kb ∉ S) (hs : ∀ b, b ∈ S → g.isM b = true ∨ g.next ≤ b) : Fnd l h0 g' kb vo vt L ks T :=
  ⟨f.sl.ext e, f.rise, f.mem, f.len, f.gl.extO e hs, f.mp.ext e hk, f.ids, Nat.le_trans f.base e.next⟩
theorem Fnd.e {l : List Mk} {h0 g g' : Heap} {kb : Nat} {vo vt : AVal} {L ks T : List (Int × Int)} (f : Fnd l h0 g kb vo vt L ks T) (e : Ext [] g g') : Fnd l h0 g' kb vo vt L ks T := f.ext e (by simp) (by simp)

section
variable {X : XTab}
theorem causesI (hX : OnlyKnown X) {h0 g : Heap} {v vo vt : AVal} {l : List Mk} {y : Int × Int} {yb kb db : Nat} {fr0 : Nat} {en : Int} {kd : List Int} {D : Int → Int} {L ks0 T0 : List (Int × Int)} {t : T} (o : Sl mkR h0 v l) (hl : l.length ≤ 100) (hen : en ≤ l.length) (hfr : fr0 ≤ 100) (f : Fnd l h0 g kb vo vt L ks0 T0) (hT : T0.length ≤ 1000)
    (ob : Ob g yb (idC y)) (hd : Mp (kInt Try.prog 3 ui64) g db kd D) (hkd : kb ≠ db) (hky : kb ≠ yb) (x0 : Ext [] h0 g) (hk0 : h0.next ≤ kb) (t0 : t 0 = v) (t5 : t 5 = vo) (t6 : t 6 = vt) (t8 : t 8 = .mp kb) (t9 : t 9 = .ptr yb 0) (t11 : t 11 = I en) (t12 : t 12 = I fr0) :
    Tells (fun q => loopN (L_trace_Causes_3 Try.prog (acallX Try.prog X q) q) q t g) fun z g' => z.1 = .exit 2 ∧ ∃ L ks T, Fnd l h0 g' kb (z.2 5) (z.2 6) L ks T ∧ Mp (kInt Try.prog 3 ui64) g' db kd D ∧ Ext [] h0 g' ∧ g.next ≤ g'.next ∧ T.length + ks0.length = ks.length + T0.length ∧ (∀ z, z ∈ ks0 → z ∈ ks) ∧ (∀ z, z ∈ T0 → z ∈ T) ∧
      (∀ z, z ∈ T → z ∈ T0 ∨ z ∈ ks) ∧ (∀ z, z ∈ ks → z ∈ ks0 ∨ z ∈ T) ∧ (∀ z, z ∈ ks → z ∈ ks0 ∨ ∃ (i : Nat) (m : Mk), l[i]? = some m ∧ (i : Int) < en ∧ m.c = y.1 ∧ mid m = z) ∧ (∀ (j : Nat) (m : Mk), l[j]? = some m → fr0 ≤ j → (j : Int) < en → m.c = y.1 → mid m ∈ ks) ∧
      ∀ i, i ≤ 4 ∨ i = 7 ∨ i = 8 → z.2 i = t i := by
  refine Tells.loop (fun n t' g' => ∃ (i : Nat) (L ks T : List (Int × Int)), t' 12 = I i ∧ fr0 ≤ i ∧ (i : Int) + n = max (fr0 : Int) en ∧ Fnd l h0 g' kb (t' 5) (t' 6) L ks T ∧ Ob g' yb (idC y) ∧ Mp (kInt Try.prog 3 ui64) g' db kd D ∧ Ext [] h0 g' ∧ g.next ≤ g'.next ∧ T.length + ks0.length = ks.length + T0.length ∧ (∀ z, z ∈ ks0 → z ∈ ks) ∧ (∀ z, z ∈ T0 → z ∈ T) ∧
      (∀ z, z ∈ T → z ∈ T0 ∨ z ∈ ks) ∧ (∀ z, z ∈ ks → z ∈ ks0 ∨ z ∈ T) ∧ (∀ z, z ∈ ks → z ∈ ks0 ∨ ∃ (i : Nat) (m : Mk), l[i]? = some m ∧ (i : Int) < en ∧ m.c = y.1 ∧ mid m = z) ∧ (∀ (j : Nat) (m : Mk), l[j]? = some m → fr0 ≤ j → j < i → m.c = y.1 → mid m ∈ ks) ∧
      ∀ i, i ≤ 4 ∨ i = 7 ∨ i = 8 ∨ i = 9 ∨ i = 11 → t' i = t i) ?_ (max (fr0 : Int) en - fr0).toNat _ _ ?_
  · rintro n u g1 ⟨i, L, ks, T, u12, hfi, hi, f1, ob1, hd1, x1, hgn, hlen, hks, hT0, hT1, hT2, hsnd, hprog, fr⟩
    have u0 : u 0 = v := (fr 0 (by decide)).trans t0
    have u8 : u 8 = .mp kb := (fr 8 (by decide)).trans t8
    have u9 : u 9 = .ptr yb 0 := (fr 9 (by decide)).trans t9
    have u11 : u 11 = I en := (fr 11 (by decide)).trans t11
    refine Tells.prot fun Q2 hQ2 => ?_
    unfold L_trace_Causes_3
    simp [u12, u11]
    refine Tells.cb (fun hc => ?_) (fun hc => ?_)
    · simp at hc
      have hil : i < l.length := by omega
      obtain ⟨m, hm⟩ : ∃ m, l[i]? = some m := ⟨_, List.getElem?_eq_getElem hil⟩
      obtain ⟨b, p, B, q1, q2, q3, q4, q5, q6, q7, q8, q9⟩ := mk_at (o.ext x1) hm
      have w : IntKind.i64.wrap ((i : Int) + 1) = i + 1 := wrap_id (by omega) (by omega)
      have obe := ob1.1
      simp only [idC] at obe
      have nx : ((i + 1 : Nat) : Int) + ((n - 1 : Nat) : Int) = max (fr0 : Int) en := by omega
      have keep : (m.c = y.1 → mid m ∈ ks) → ∀ (j : Nat) (k : Mk), l[j]? = some k → fr0 ≤ j → j < i + 1 → k.c = y.1 → mid k ∈ ks := fun hh j k hj h1 h2 h3 => by
        by_cases q : j = i
        · subst q; rw [hm] at hj; cases hj; exact hh h3
        · exact hprog j k hj h1 (by omega) h3
      simp [J_trace_Causes_4, u12, u0, u9, q1, q2, q3, q4, q7, obe]
      by_cases hmc : m.c = y.1
      · simp [hmc, J_trace_Causes_6, u12, u0, q1, q2, q3, q4]
        refine Tells.bind (by simpa [mkC, hmc] using trace_id hX m g1) ?_
        rintro _ g2 ⟨rfl, y2⟩
        try simp
        refine Tells.newSt (ds := idC (mid m)) (by rfl) (by rfl) (by rfl) (by rfl) fun g3 bz oz y3 l3 => ?_
        have f3 := (f1.e y2).e y3
        have x3 := (x1.trans y2).trans y3
        have ob3 := (ob1.e y2).e y3
        have hd3 := (hd1.e y2).e y3
        have hkb := f1.mp.ob.lt
        have nx2 := y2.next
        have nx3 := y3.next
        have e := f3.mp.look2 mt47 tz3 (mid m)
        simp [oz.1, idC, u8, e]
        by_cases hin : mid m ∈ ks
        · have ek : knF ks (mid m) = 1 := if_pos hin
          simp [ek, J_trace_Causes_5, u12, w]
          refine Tells.ok (hQ2 _ _ (.inl ⟨rfl, n - 1, by omega, i + 1, L, ks, T, by simp, by omega, nx, by simpa using f3, ob3, hd3, x3, by omega, hlen, hks, hT0, hT1, hT2, hsnd, keep fun _ => hin, fun j hj => ?_⟩))
          simp only [upd]
          repeat rw [if_neg (by omega)]
          exact fr j hj
        · have ek : knF ks (mid m) = 0 := if_neg hin
          simp [ek, oz.1, idC, u8]
          refine Tells.mset f3.mp mt47 (a := mid m) (κ := .agg [I (mid m).1, I (mid m).2]) (by rfl) fun g4 M4 y4 => ?_
          rw [insK_new hin, knF_app] at M4
          have nk : ∀ b, b ∈ [kb] → g3.isM b = true ∨ g3.next ≤ b := fun b hb => by simp at hb; subst hb; exact .inl f3.mp.ob.2.1
          have oz4 := oz.ext y4 (by simp; omega)
          have ob4 := ob3.ext y4 (by simp; exact fun q => hky q.symm)
          have hd4 := hd3.ext y4 (by simp; exact fun q => hkd q.symm)
          have sl4 := f3.sl.ext y4
          have gl4 := f3.gl.extO y4 nk
          have x4 := x3.then y4 (by simp; omega)
          have oze := oz4.1
          simp only [idC] at oze
          have kl := f1.kl
          have hLl := f1.len
          simp [oze]
          refine Tells.bind (by simpa [idC] using trace_lay hX sl4 (by omega) (mid m)) ?_
          rintro lv g5 ⟨sl5, y5⟩
          have oz5 := (oz4.e y5).1
          simp only [idC] at oz5
          have x5 := x4.trans y5
          simp [oz5]
          refine Tells.app1 (r := idR) (c := [I (mid m).1, I (mid m).2]) (x := mid m) (gl4.e y5) (by rfl) (by rfl) (by rfl) (by rfl) (by rfl) (by omega) (by decide) x5.next fun s6 g6 go6 y6 y6' z6 => ?_
          have nob : ∀ d cs, Ob g5 d cs → d ∉ (u 6).blks := fun d cs od => (gl4.e y5).1.ob od
          simp [J_trace_Causes_5, u12, w]
          obtain ⟨lr, lm, ll⟩ := layF_ok (y := mid m) f1.rise
          refine Tells.ok (hQ2 _ _ (.inl ⟨rfl, n - 1, by omega, i + 1, layF L (mid m), ks ++ [mid m], T ++ [mid m], by simp, by omega, nx, ⟨?_, lr, ?_, ?_, ?_, ?_, ?_, ?_⟩, ?_, ?_, y6' _ x5, ?_, ?_, ?_, ?_, ?_, ?_, ?_, ?_, fun j hj => ?_⟩))
          · simpa using sl5.ext y6
          · intro z; rw [lm, f1.mem]; simp [or_comm]
          · simp; omega
          · simpa using go6
          · exact (M4.e y5).ext y6 (nob _ _ (M4.e y5).ob)
          · intro z hz
            rcases List.mem_append.1 hz with q | q
            · exact f1.ids z q
            · simp at q; rw [q]; exact List.mem_map_of_mem (List.mem_of_getElem? hm)
          · exact (y6' _ x5).next
          · exact (ob4.e y5).ext y6 (nob _ _ (ob4.e y5))
          · exact (hd4.e y5).ext y6 (nob _ _ (hd4.e y5).ob)
          · have := y4.next; have := y5.next; have := y6.next; omega
          · simp; omega
          · intro z hz; simp [hks z hz]
          · intro z hz; simp [hT0 z hz]
          · intro z hz
            rcases List.mem_append.1 hz with q | q
            · exact (hT1 z q).imp_right fun r => by simp [r]
            · exact .inr (by simp at q; simp [q])
          · intro z hz
            rcases List.mem_append.1 hz with q | q
            · exact (hT2 z q).imp_right fun r => by simp [r]
            · exact .inr (by simp at q; simp [q])
          · intro z hz
            rcases List.mem_append.1 hz with q | q
            · exact hsnd z q
            · simp at q; exact .inr ⟨i, m, hm, by omega, hmc, q.symm⟩
          · intro j k hj h1 h2 h3
            by_cases q : j = i
            · subst q; rw [hm] at hj; cases hj; simp
            · simp [hprog j k hj h1 (by omega) h3]
          · simp only [upd]
            repeat rw [if_neg (by omega)]
            exact fr j hj
      · have hmc' : (m.c == y.1) = false := by simpa using hmc
        have hmc2 : (m.c != y.1) = true := by simpa using hmc
        simp [hmc, hmc', hmc2, J_trace_Causes_5, u12, w]
        refine Tells.ok (hQ2 _ _ (.inl ⟨rfl, n - 1, by omega, i + 1, L, ks, T, by simp, by omega, nx, by simpa using f1, ob1, hd1, x1, hgn, hlen, hks, hT0, hT1, hT2, hsnd, keep fun q => absurd q hmc, fun j hj => ?_⟩))
        simp only [upd]
        repeat rw [if_neg (by omega)]
        exact fr j hj
    · simp at hc
      refine Tells.ok (hQ2 _ _ (.inr ⟨by simp, rfl, L, ks, T, by simpa using f1, hd1, x1, hgn, hlen, hks, hT0, hT1, hT2, hsnd, fun j m h1 h2 h3 => hprog j m h1 h2 (by omega), fun j hj => ?_⟩))
      simp only [upd]
      repeat rw [if_neg (by omega)]
      exact fr j (by omega)
  · exact ⟨fr0, L, ks0, T0, t12, by omega, by omega, by rw [t5, t6]; exact f, ob, hd, x0, by omega, by omega, fun _ h => h, fun _ h => h, fun _ h => .inl h, fun _ h => .inl h, fun _ h => .inl h, fun j m h1 h2 h3 => by omega, fun _ _ => rfl⟩

theorem trace_Causes (hX : OnlyKnown X) {h : Heap} {v : AVal} {l : List Mk} (o : Sl mkR h v l) (hl : l.length ≤ 100) (x : Int × Int) : Tells (fun q => acallX Try.prog X q F_trace_Causes [v, .agg (idC x)] h) fun r h' =>
    ∃ L, Sl idR h' r L ∧ Rise2 L ∧ (∀ z, z ∈ L ↔ Rch (causeP l) x z) ∧ L.length ≤ 100 ∧ Ext [] h h' := by
  refine R_trace_Causes _ _ (hX _ _ rfl) ?_
  refine Tells.prot fun Q' hQ => ?_
  unfold S_trace_Causes
  simp
  refine Tells.box (cs := idC x) (by rfl) (by rfl) fun h1 bx ox x1 lx => ?_
  have oxe := ox.1
  simp only [idC] at oxe
  simp [oxe]
  refine Tells.lit (r := idR) (xs := [x]) (css := [[I x.1, I x.2]]) (by rfl) ⟨rfl, trivial⟩ (by rfl) (by simp) (bsl1_agg (by rfl) (by rfl)) fun v1 h2 g1 x2 hb => ?_
  obtain ⟨m1, x3⟩ := Mp.make (K := kInt Try.prog 3 ui64) h2
  obtain ⟨m2, x4⟩ := Mp.make (K := kTwo Try.prog 30 two30) (h2.new true [])
  have lt1 : h2.next < (h2.new true []).next := m1.ob.lt
  have lt2' : (h2.new true []).next < ((h2.new true []).new true []).next := m2.ob.lt
  have x04 := ((x1.trans x2).trans x3).trans x4
  have hh2 := (x1.trans x2).next
  try simp
  refine Tells.bind (Tells.loop (fun n t g => ∃ (L ks T : List (Int × Int)) (kd : List Int) (D : Int → Int), t 0 = v ∧ t 7 = .mp h2.next ∧ t 8 = .mp (h2.new true []).next ∧ Fnd l h g (h2.new true []).next (t 5) (t 6) L ks T ∧ Mp (kInt Try.prog 3 ui64) g h2.next kd D ∧ Ext [] h g ∧ n + ks.length = T.length + l.length ∧ T.length ≤ ks.length + 1 ∧
      (∀ (j : Nat) (m : Mk), l[j]? = some m → (j : Int) < D m.c → mid m ∈ ks) ∧ (∀ z, z = x ∨ z ∈ ks → z ∈ T ∨ firstS l z ≤ D z.1) ∧ (∀ z, z ∈ ks → Rch (causeP l) x z) ∧ (∀ z, z ∈ T → z = x ∨ z ∈ ks) ∧ (∀ c, 0 ≤ D c ∧ D c ≤ 100))
    (Q := fun p g => p.1 = .exit 0 ∧ Ext [] h g ∧ ∃ L, Sl idR g (p.2 5) L ∧ Rise2 L ∧ (∀ z, z ∈ L ↔ Rch (causeP l) x z) ∧ L.length ≤ 100) ?_ (1 + l.length) _ _ ?_) ?_
  · rintro n t g ⟨L, ks, T, kd, D, t0, t7, t8, f, md, xg, hn, hTl, o1, o2, o3, o3', o4⟩
    refine Tells.prot fun Q2 hQ2 => ?_
    unfold L_trace_Causes_1
    simp [f.gl.1.len]
    cases T with
    | nil =>
      simp
      refine Tells.ok (hQ2 _ _ (.inr ⟨by simp, rfl, xg, L, by simpa using f.sl, f.rise, fun z => ?_, ?_⟩))
      · rw [f.mem]
        refine ⟨o3 z, fun hz => reach_all o1 (fun z hz => ?_) hz⟩
        rcases o2 z hz with q | q
        · simp at q
        · exact q
      · have := f.len
        have := f.kl
        omega
    | cons y T =>
      obtain ⟨b3, p3, B3, r1, r2, r3, r4, r5, _⟩ := id_at f.gl.1 (i := 0) (x := y) rfl
      have r1' : ixsR 2 (t 6) (.int .i64 0) = some (.ptr b3 p3) := r1
      have hpos : (0 : Int) < ((T.length : Int) + 1) := by omega
      simp [hpos, J_trace_Causes_2, r1', r2, r3, r4]
      refine Tells.newSt (ds := idC y) (by rfl) (by rfl) (by rfl) (by rfl) fun g1 yb oy y1 ly => ?_
      have f1 := f.e y1
      have md1 := md.e y1
      obtain ⟨v', s1, s2, s3⟩ := gl_dropI (n := 2) (lo := 1) f1.gl rfl (by simp)
      have s1' : slcR 2 (t 6) (some (.int .i64 1)) none none = some v' := s1
      have e := md1.look1 mt46 tz3 y.1
      have oye := oy.1
      simp only [idC] at oye
      simp [s1', t7, t0, oye, e]
      refine Tells.cbE (by simpa [idC] using trace_first hX ((o.ext xg).ext y1) hl y) ?_
      rintro _ g2 ⟨rfl, y2⟩
      have md2 := md1.e y2
      have e2 := md2.look1 mt46 tz3 y.1
      have oy2 := oy.e y2
      have oye2 := oy2.1
      simp only [idC] at oye2
      have hD := o4 y.1
      have kl00 := f.kl
      have hen := firstS_ge l y
      have hkb := f.mp.ob.lt
      have hdb := md.ob.lt
      simp [t7, t0, oye2, e2]
      refine Tells.mset (n := if D y.1 < firstS l y then firstS l y else D y.1) md2 mt46 (a := y.1) (by rfl) fun g3 M3 y3 => ?_
      have hkd : (h2.new true []).next ≠ h2.next := by omega
      have f3 := (f1.e y2).ext y3 (by simp; exact hkd) (fun b hb => by simp at hb; subst hb; exact .inl md2.ob.2.1)
      have oy3 := oy2.ext y3 (by simp; omega)
      have xg2 := (xg.trans y1).trans y2
      have xg3 := xg2.then y3 (by simp; omega)
      have hDn : (I (D y.1)) = I (((D y.1).toNat : Nat) : Int) := by rw [Int.toNat_of_nonneg hD.1]
      have f3' : Fnd l h g3 (h2.new true []).next (t 5) v' L ks T := ⟨f3.sl, f3.rise, f3.mem, f3.len, by
        have s2' : Gl idR h g1 v' T := by simpa using s2
        exact (s2'.e y2).extO y3 (fun b hb => by simp at hb; subst hb; exact .inl md2.ob.2.1), f3.mp, f3.ids, f3.base⟩
      try simp
      simp only [List.length_cons] at hn hTl
      refine Tells.bind (causesI hX (h0 := h) (y := y) (yb := yb) (kb := (h2.new true []).next) (db := h2.next) (fr0 := (D y.1).toNat) (en := firstS l y) (vo := t 5) (vt := v') o hl hen.2 (by omega) f3' (by omega) oy3 M3 hkd (by omega) xg3 (by omega) (by simp [t0]) (by simp) (by simp) (by simp [t8]) (by simp) (by simp) (by simp [hDn])) ?_
      rintro ⟨ex, u⟩ g4 ⟨rfl, L', ks', T', f4, md4, xg4, hg4, hlen, hks, hT0, hT1, hT2, hsnd, hprog, fr⟩
      have u0 : u 0 = v := (fr 0 (by decide)).trans (by simp [t0])
      have u7 : u 7 = .mp h2.next := (fr 7 (by decide)).trans (by simp [t7])
      have u8 : u 8 = .mp (h2.new true []).next := (fr 8 (by decide)).trans (by simp [t8])
      have kl := f4.kl
      have kl0 := f.kl
      have hmax : (if D y.1 < firstS l y then firstS l y else D y.1) = max (D y.1) (firstS l y) := by split <;> omega
      simp
      refine Tells.ok (hQ2 _ _ (.inl ⟨rfl, n - 1, by omega, L', ks', T', _, _, u0, u7, u8, f4, md4, xg4, by omega, by omega, fun j m hj hlt => ?_, fun z hz => ?_, fun z hz => ?_, fun z hz => ?_, fun c => ?_⟩))
      · rw [hmax] at hlt
        unfold updF at hlt
        by_cases hc : m.c = y.1
        · rw [if_pos hc] at hlt
          by_cases hjd : (j : Int) < D y.1
          · exact hks _ (o1 j m hj (by rw [hc]; exact hjd))
          · exact hprog j m hj (by omega) (by omega) hc
        · rw [if_neg hc] at hlt
          exact hks _ (o1 j m hj hlt)
      · rw [hmax]
        have up : ∀ z : Int × Int, firstS l z ≤ D z.1 → firstS l z ≤ updF D y.1 (max (D y.1) (firstS l y)) z.1 := fun z hz => by
          unfold updF
          by_cases hc : z.1 = y.1
          · rw [if_pos hc]; rw [hc] at hz; omega
          · rw [if_neg hc]; exact hz
        by_cases hzy : z = y
        · subst hzy
          right
          unfold updF
          rw [if_pos rfl]; omega
        · have old : z = x ∨ z ∈ ks → z ∈ T' ∨ firstS l z ≤ updF D y.1 (max (D y.1) (firstS l y)) z.1 := fun hz => by
            rcases o2 z hz with q | q
            · rcases List.mem_cons.1 q with r | r
              · exact absurd r hzy
              · exact .inl (hT0 z r)
            · exact .inr (up z q)
          rcases hz with q | q
          · exact old (.inl q)
          · rcases hT2 z q with r | r
            · exact old (.inr r)
            · exact .inl r
      · rcases hsnd z hz with q | ⟨i, m, k1, k2, k3, k4⟩
        · exact o3 z q
        · have hc : causeP l y z := ⟨i, m, k1, k2, k3, k4⟩
          rcases o3' y (by simp) with r | r
          · rw [← r]; exact .one hc
          · exact .step (o3 y r) hc
      · rcases hT1 z hz with q | q
        · exact (o3' z (by simp [q])).imp_right fun r => hks z r
        · exact .inr q
      · rw [hmax]
        have := o4 c
        unfold updF
        split
        · omega
        · exact this
  · refine ⟨[], [], [x], [], fun _ => 0, by simp, by simp, by simp, ⟨by simpa using Sl.nil, List.Pairwise.nil, by simp, by simp, ?_, ?_, by simp, x04.next⟩, m1.e x4, x04, by simp, by simp, fun j m _ h => by simp at h; omega, fun z hz => .inl (by simpa using hz), by simp, by simp, fun c => by simp⟩
    · have := ((g1.back x1.next).e x3).e x4
      simpa using this
    · have e : knF [] = fun _ => 0 := by funext z; simp [knF]
      rw [e]; exact m2
  · rintro ⟨ex, t⟩ g ⟨rfl, xg, L, sl, rise, mem, len⟩
    simp [J_trace_Causes_0]
    exact Tells.ok (hQ _ _ ⟨L, by simpa using sl, rise, mem, len, xg⟩)
end
end Go.Proofs.Ytochkdifpgelmaa

/-! Plain laws of what trace tells: who agrees, what was once. -/
namespace Go.Proofs.Ytochkdifpgelmaa
open Go.Ab

abbrev Ids := List (Int × Int)
theorem posF_in {a : Ids} {x : Int × Int} (h : x ∈ a) : posF a x = (idxK a x : Nat) + 1 := if_pos h
theorem posF_out {a : Ids} {x : Int × Int} (h : x ∉ a) : posF a x = 0 := if_neg h
theorem idxK_inj {a : Ids} {x y : Int × Int} (hx : x ∈ a) (hy : y ∈ a) (h : idxK a x = idxK a y) : x = y := by
  have h1 := idx_at hx
  have h2 := idx_at hy
  rw [h, h2] at h1
  exact (Option.some.inj h1).symm

theorem agr_iff (a : Ids) : ∀ (b : Ids) (last : Int), 0 ≤ last → (agr a last b = true ↔ (∀ y, y ∈ b → y ∈ a → last ≤ posF a y) ∧ b.Pairwise fun x y => x ∈ a → y ∈ a → posF a x ≤ posF a y)
  | [], last, _ => by simp [agr]
  | x :: r, last, h0 => by
    have hp := posF_le a x
    have ih := agr_iff a r (max last (posF a x)) (by omega)
    simp only [agr, Bool.and_eq_true, ih, List.pairwise_cons, List.mem_cons]
    constructor
    · rintro ⟨h1, h2, h3⟩
      refine ⟨fun y hy hya => ?_, fun y hy hxa hya => ?_, h3⟩
      · rcases hy with q | q
        · subst q
          have := posF_in hya
          simp at h1
          omega
        · have := h2 y q hya; omega
      · have := h2 y hy hya; omega
    · rintro ⟨h1, h2, h3⟩
      refine ⟨?_, fun y hy hya => ?_, h3⟩
      · simp
        by_cases hx : x ∈ a
        · exact .inr (h1 x (.inl rfl) hx)
        · left; rw [posF_out hx]; omega
      · have k1 := h1 y (.inr hy) hya
        by_cases hx : x ∈ a
        · have := h2 y hy hx hya; omega
        · rw [posF_out hx]; omega

/-- What is in both stands in one order. -/
def same2 (a b : Ids) : Prop := ∀ x y, x ∈ a → y ∈ a → x ∈ b → y ∈ b → idxK b x < idxK b y → idxK a x < idxK a y
theorem same2.symm {a b : Ids} (h : same2 a b) : same2 b a := fun x y hx hy hx' hy' hlt => by
  rcases Nat.lt_trichotomy (idxK b x) (idxK b y) with q | q | q
  · exact q
  · have := idxK_inj hx hy q
    subst this; omega
  · have := h y x hy' hx' hy hx q
    omega
theorem pairwise_idx {α : Type} [DecidableEq α] {R : α → α → Prop} : ∀ {l : List α}, l.Nodup → (l.Pairwise R ↔ ∀ (i j : Nat) (x y : α), i < j → l[i]? = some x → l[j]? = some y → R x y)
  | [], _ => by simp
  | a :: l, hn => by
    obtain ⟨h1, h2⟩ := List.nodup_cons.1 hn
    rw [List.pairwise_cons, pairwise_idx h2]
    constructor
    · rintro ⟨k1, k2⟩ i j x y hij hx hy
      cases i with
      | zero =>
        simp at hx; subst hx
        cases j with
        | zero => omega
        | succ j => exact k1 y (List.mem_of_getElem? (by simpa using hy))
      | succ i =>
        cases j with
        | zero => omega
        | succ j => exact k2 i j x y (by omega) (by simpa using hx) (by simpa using hy)
    · intro k
      refine ⟨fun y hy => ?_, fun i j x y hij hx hy => k (i + 1) (j + 1) x y (by omega) (by simpa using hx) (by simpa using hy)⟩
      obtain ⟨j, hj⟩ := List.mem_iff_getElem?.1 hy
      exact k 0 (j + 1) a y (by omega) rfl (by simpa using hj)
theorem agr_same {a b : Ids} (hb : b.Nodup) : agr a 0 b = true ↔ same2 a b := by
  rw [agr_iff a b 0 (by omega), pairwise_idx hb]
  constructor
  · rintro ⟨_, h⟩ x y hx hy hx' hy' hlt
    have := h _ _ x y hlt (idx_at hx') (idx_at hy') hx hy
    rw [posF_in hx, posF_in hy] at this
    rcases Nat.lt_or_ge (idxK a x) (idxK a y) with q | q
    · exact q
    · have e : idxK a x = idxK a y := by omega
      have := idxK_inj hx hy e
      subst this; omega
  · intro h
    refine ⟨fun y _ _ => (posF_le a y).1, fun i j x y hij hx hy hxa hya => ?_⟩
    have ex := idxK_of hb hx
    have ey := idxK_of hb hy
    have := h x y hxa hya (List.mem_of_getElem? hx) (List.mem_of_getElem? hy) (by omega)
    rw [posF_in hxa, posF_in hya]; omega

theorem agreeG_iff : ∀ (r p : List Ids), agreeG p r = true ↔ (∀ b, b ∈ p → ∀ a, a ∈ r → agr a 0 b = true) ∧ r.Pairwise fun b a => agr a 0 b = true
  | [], p => by simp [agreeG]
  | a :: r, p => by
    have ih := agreeG_iff r (p ++ [a])
    simp only [agreeG_at, Bool.and_eq_true, ih, List.all_eq_true, List.pairwise_cons, List.mem_append, List.mem_cons]
    constructor
    · rintro ⟨h1, h2, h3⟩
      refine ⟨fun b hb c hc => ?_, fun c hc => h2 a (.inr (.inl rfl)) c hc, h3⟩
      rcases hc with q | q
      · subst q; exact h1 b hb
      · exact h2 b (.inl hb) c q
    · rintro ⟨h1, h2, h3⟩
      refine ⟨fun b hb => h1 b hb a (.inl rfl), fun b hb c hc => ?_, h3⟩
      rcases hb with q | q | q
      · exact h1 b q c (.inr hc)
      · subst q; exact h2 c hc
      · simp at q
/-- Of no two clients the orders are unlike. -/
def agreeS (f : Int → Ids) : Prop := ∀ c d, same2 (f c) (f d)
theorem agreeR_iff (l : List Mk) : agreeR (rowsF l) = true ↔ agreeS (firF l) := by
  have hn : ∀ c, (firF l c).Nodup := fun c => nodup_ddF _
  unfold agreeR
  rw [agreeG_iff]
  unfold rowsF
  rw [List.pairwise_map]
  have hcn : (cliF l).Nodup := nodup_ddF _
  rw [pairwise_idx hcn]
  constructor
  · rintro ⟨_, h⟩ c d
    by_cases hc : c ∈ cliF l
    · by_cases hd : d ∈ cliF l
      · rcases Nat.lt_trichotomy (idxK (cliF l) c) (idxK (cliF l) d) with q | q | q
        · exact ((agr_same (hn c)).1 (h _ _ c d q (idx_at hc) (idx_at hd))).symm
        · have h1 := idx_at hc
          have h2 := idx_at hd
          rw [q, h2] at h1
          cases h1
          intro x y _ _ _ _ hlt; exact hlt
        · exact (agr_same (hn d)).1 (h _ _ d c q (idx_at hd) (idx_at hc))
      · intro x y _ _ hx; rw [firF_nil hd] at hx; simp at hx
    · intro x y hx; rw [firF_nil hc] at hx; simp at hx
  · intro h
    exact ⟨by simp, fun i j c d _ _ _ => (agr_same (hn c)).2 (h d c)⟩

/-! ### beginnings, and with one client less -/

theorem ddF_prefix {α : Type} [DecidableEq α] (l m : List α) : ∃ r, ddF (l ++ m) = ddF l ++ r := by
  induction m using list_end with
  | h0 => exact ⟨[], by simp⟩
  | h1 m x ih =>
    obtain ⟨r, hr⟩ := ih
    rw [← List.append_assoc, ddF_app, hr]
    unfold insK
    split
    · exact ⟨r, rfl⟩
    · exact ⟨r ++ [x], by rw [List.append_assoc]⟩
theorem firF_prefix (l m : List Mk) (c : Int) : ∃ r, firF (l ++ m) c = firF l c ++ r := by
  unfold firF
  rw [heardL_app]
  exact ddF_prefix _ _
theorem agreeS_take {l : List Mk} (h : agreeS (firF l)) (k : Nat) : agreeS (firF (l.take k)) := fun c d x y hx hy hx' hy' hlt => by
  have e : l = l.take k ++ l.drop k := (List.take_append_drop _ _).symm
  obtain ⟨r, hr⟩ := firF_prefix (l.take k) (l.drop k) c
  obtain ⟨s, hs⟩ := firF_prefix (l.take k) (l.drop k) d
  rw [← e] at hr hs
  have := h c d x y (by rw [hr]; simp [hx]) (by rw [hr]; simp [hy]) (by rw [hs]; simp [hx']) (by rw [hs]; simp [hy']) (by rw [hs, idxK_old hx', idxK_old hy']; exact hlt)
  rw [hr, idxK_old hx, idxK_old hy] at this
  exact this
/-- Without what one client heard. -/
def lessW (who : Int) (m : Mk) : Bool := m.sent || m.c != who
theorem heardL_less (l : List Mk) (who c : Int) : heardL (l.filter (lessW who)) c = if c = who then [] else heardL l c := by
  unfold heardL
  rw [List.filter_filter]
  split
  · rename_i h
    subst h
    rw [List.map_eq_nil_iff, List.filter_eq_nil_iff]
    intro m _ q
    simp [heardBy, lessW] at q
    rcases q.2 with z | z
    · rw [z] at q; simp at q
    · exact z q.1.2
  · rename_i h
    congr 1
    apply List.filter_congr
    intro m _
    simp only [heardBy, lessW]
    cases m.sent with
    | true => simp
    | false =>
      by_cases hc : m.c = c
      · subst hc; simp [h]
      · simp [hc]
theorem firF_less (l : List Mk) (who c : Int) : firF (l.filter (lessW who)) c = if c = who then [] else firF l c := by
  unfold firF
  rw [heardL_less]
  split <;> simp [ddF]
theorem agreeS_less {l : List Mk} (h : agreeS (firF l)) (who : Int) : agreeS (firF (l.filter (lessW who))) := fun c d x y hx hy hx' hy' hlt => by
  rw [firF_less] at *
  split at hx
  · simp at hx
  · split at hx'
    · simp at hx'
    · rename_i h1 h2
      rw [if_neg h1] at *
      rw [if_neg h2] at *
      exact h c d x y hx hy hx' hy' hlt

theorem onceG_take : ∀ (l p : List Mk) (k : Nat), onceG p l = true → onceG p (l.take k) = true
  | [], p, k, h => by simpa using h
  | m :: r, p, 0, _ => by simp [onceG]
  | m :: r, p, k + 1, h => by
    simp only [onceG, Bool.and_eq_true, List.take_succ_cons] at h ⊢
    exact ⟨h.1, onceG_take r _ k h.2⟩
theorem okM_less {p : List Mk} {m : Mk} {who : Int} (h : okM p m = true) : okM (p.filter (lessW who)) m = true := by
  have hs : sentC (p.filter (lessW who)) = sentC p := by
    funext x
    unfold sentC
    rw [List.filter_filter]
    congr 2
    apply List.filter_congr
    intro k _
    cases hk : k.sent <;> simp [lessW, hk]
  have hh : heardC (p.filter (lessW who)) m ≤ heardC p m := by
    unfold heardC
    rw [List.filter_filter]
    have : (List.filter (fun a => (!a.sent && decide (a = m)) && lessW who a) p).length ≤ (List.filter (fun k => !k.sent && decide (k = m)) p).length := by
      rw [← List.filter_filter]
      rw [show List.filter (fun a => !a.sent && decide (a = m)) (List.filter (fun a => lessW who a) p) = List.filter (fun a => lessW who a) (List.filter (fun a => !a.sent && decide (a = m)) p) from by
        rw [List.filter_filter, List.filter_filter]; congr 1; funext a; rw [Bool.and_comm]]
      exact List.length_filter_le _ _
    omega
  have h0 := (heardC_le (p.filter (lessW who)) m).1
  unfold okM at h ⊢
  rw [hs]
  split
  · rename_i k; rw [if_pos k] at h; exact h
  · rename_i k
    rw [if_neg k] at h
    simp at h ⊢
    exact ⟨by omega, h.2⟩
theorem onceG_less (who : Int) : ∀ (l p : List Mk), onceG p l = true → onceG (p.filter (lessW who)) (l.filter (lessW who)) = true
  | [], p, _ => by simp [onceG]
  | m :: r, p, h => by
    simp only [onceG, Bool.and_eq_true] at h
    have ih := onceG_less who r (p ++ [m]) h.2
    by_cases hm : lessW who m = true
    · rw [List.filter_cons_of_pos hm]
      simp only [onceG, Bool.and_eq_true]
      refine ⟨okM_less h.1, ?_⟩
      rw [List.filter_append] at ih
      simpa [List.filter, hm] using ih
    · rw [List.filter_cons_of_neg hm]
      rw [List.filter_append] at ih
      simpa [List.filter, hm] using ih
end Go.Proofs.Ytochkdifpgelmaa

/-! What law 25's at tells; TraceCauses' loops. -/
namespace Go.Proofs.Ytochkdifpgelmaa
open Go.Ab

theorem idxK_first {α : Type} [DecidableEq α] {l : List α} {i : Nat} {x : α} (h : l[i]? = some x) (hn : x ∉ l.take i) : idxK l x = i := by
  have hi := (List.getElem?_eq_some_iff.1 h).1
  have e : l = l.take i ++ l.drop i := (List.take_append_drop _ _).symm
  unfold idxK
  rw [e, List.idxOf_append, if_neg hn]
  have hd : l.drop i = x :: l.drop (i + 1) := by
    rw [List.drop_eq_getElem_cons hi]
    rw [List.getElem?_eq_getElem hi] at h
    cases h; rfl
  rw [hd]
  simp; omega
theorem posF_take {l : Ids} {i : Nat} {x : Int × Int} (h : l[i]? = some x) (hn : x ∉ l.take i) : posF l x = i + 1 := by
  rw [posF_in (List.mem_of_getElem? h), idxK_first h hn]

section
variable {X : XTab}
theorem law_at (hX : OnlyKnown X) {h : Heap} {v : AVal} {l : Ids} (o : Sl idR h v l) (hl : l.length ≤ 1000) (y : Int × Int) : Tells (fun q => acallX Try.prog X q F_precentorlaw25_at [v, .agg (idC y)] h) fun r h' => r = I (posF l y - 1) ∧ Ext [] h h' := by
  refine R_precentorlaw25_at _ _ (hX _ _ rfl) ?_
  refine Tells.prot fun Q' hQ => ?_
  unfold S_precentorlaw25_at
  simp
  refine Tells.box (cs := idC y) (by rfl) (by rfl) fun h1 bx ox x1 lx => ?_
  have oxe := ox.1
  simp only [idC] at oxe
  try simp
  refine Tells.bind (Tells.loop (fun n t g => ∃ i : Nat, t 0 = v ∧ t 3 = .ptr bx 0 ∧ t 5 = I i ∧ i + n = l.length ∧ g = h1 ∧ y ∉ l.take i)
    (Q := fun p g => g = h1 ∧ ((p.1 = .exit 0 ∧ posF l y = 0) ∨ (p.1 = .ret ∧ p.2 4 = I (posF l y - 1)))) ?_ l.length _ _ ?_) ?_
  · rintro n t g ⟨i, t0, t3, t5, hi, rfl, hno⟩
    refine Tells.prot fun Q2 hQ2 => ?_
    unfold L_precentorlaw25_at_1
    simp [t5, t0, (o.ext x1).len]
    refine Tells.cb (fun hc => ?_) (fun hc => ?_)
    · simp at hc
      obtain ⟨k, hk⟩ : ∃ k, l[i]? = some k := ⟨_, List.getElem?_eq_getElem hc⟩
      obtain ⟨b, p, B, q1, q2, q3, q4, q5, q6, q7⟩ := id_at (o.ext x1) hk
      have htk : l.take (i + 1) = l.take i ++ [k] := by rw [List.take_add_one, hk]; rfl
      have w : IntKind.i64.wrap ((i : Int) + 1) = i + 1 := wrap_id (by omega) (by omega)
      simp [J_precentorlaw25_at_2, t5, t0, t3, q1, q2, q3, q4, oxe, aBin_eql2 two30]
      by_cases hq : k = y
      · subst hq
        simp [t5]
        refine Tells.ok (hQ2 _ _ (.inr ⟨by simp, rfl, .inr ⟨rfl, ?_⟩⟩))
        rw [posF_take hk hno]
        simp
      · have hne : ¬ (k.1 = y.1 ∧ k.2 = y.2) := fun z => hq (Prod.ext z.1 z.2)
        have hne' : (k.1 == y.1 && k.2 == y.2) = false := by
          cases hb : (k.1 == y.1 && k.2 == y.2) with
          | false => rfl
          | true => simp at hb; exact absurd hb hne
        simp [hne, hne', J_precentorlaw25_at_3, t5, w]
        refine Tells.ok (hQ2 _ _ (.inl ⟨rfl, n - 1, by omega, i + 1, by simp [t0], by simp [t3], by simp, by omega, rfl, fun hz => ?_⟩))
        rw [htk] at hz
        rcases List.mem_append.1 hz with q | q
        · exact hno q
        · simp at q; exact hq q.symm
    · simp at hc
      rw [List.take_of_length_le (by omega)] at hno
      exact Tells.ok (hQ2 _ _ (.inr ⟨by simp, rfl, .inl ⟨rfl, posF_out hno⟩⟩))
  · exact ⟨0, by simp, by simp, by simp, by omega, rfl, by simp⟩
  · rintro ⟨ex, t⟩ g ⟨rfl, ⟨rfl, ho⟩ | ⟨rfl, t4⟩⟩
    · simp [J_precentorlaw25_at_0]
      exact Tells.ok (hQ _ _ ⟨by rw [ho]; rfl, x1⟩)
    · simp
      exact Tells.ok (hQ _ _ ⟨t4, x1⟩)

/-- Was it sent ahead of that? -/
def sentB (m : List Mk) (i : Nat) (k0 : Mk) : Prop := ∃ j k, j < i ∧ m[j]? = some k ∧ k.sent = true ∧ k.c = k0.c ∧ k.s = k0.s
theorem tc_first {g : Heap} {v : AVal} {m : List Mk} {i : Nat} {k0 : Mk} {t : T} (o : Sl mkR g v m) (hl : m.length ≤ 100) (hi : m[i]? = some k0) (t3 : t 3 = v) (t4 : t 4 = I i) (t6 : t 6 = I i) (t7 : t 7 = I 0) :
    Tells (fun q => loopN (L_precentorlaw25_TraceCauses_19 Try.prog (acallX Try.prog X q) q) q t g) fun z g' => z.1 = .exit 2 ∧ g' = g ∧ ((z.2 6 = I i ∧ ¬ sentB m i k0) ∨ (z.2 6 = I (-1) ∧ sentB m i k0)) ∧ ∀ j, j ≤ 5 → z.2 j = t j := by
  have hil := (List.getElem?_eq_some_iff.1 hi).1
  obtain ⟨b0, p0, B0, r1, r2, r3, r4, r5, r6, r7, r8, r9⟩ := mk_at o hi
  refine Tells.loop (fun n t' g' => ∃ j : Nat, t' 7 = I j ∧ j + n = i ∧ g' = g ∧ ((t' 6 = I i ∧ ¬ sentB m j k0) ∨ (t' 6 = I (-1) ∧ sentB m j k0)) ∧ ∀ j, j ≤ 5 → t' j = t j) ?_ i _ _ ?_
  · rintro n u g1 ⟨j, u7, hj, rfl, hs, fr⟩
    have u3 : u 3 = v := (fr 3 (by decide)).trans t3
    have u4 : u 4 = I i := (fr 4 (by decide)).trans t4
    refine Tells.prot fun Q2 hQ2 => ?_
    unfold L_precentorlaw25_TraceCauses_19
    simp [u7, u4]
    refine Tells.cb (fun hc => ?_) (fun hc => ?_)
    · simp at hc
      obtain ⟨k, hk⟩ : ∃ k, m[j]? = some k := ⟨_, List.getElem?_eq_getElem (by omega)⟩
      obtain ⟨b, p, B, q1, q2, q3, q4, q5, q6, q7, q8, q9⟩ := mk_at o hk
      have w : IntKind.i64.wrap ((j : Int) + 1) = j + 1 := wrap_id (by omega) (by omega)
      have nx : ∀ (u' : T), (∀ z, z ≤ 5 → u' z = u z) → ∀ z, z ≤ 5 → u' z = t z := fun u' h z hz => (h z hz).trans (fr z hz)
      have old : sentB m j k0 → sentB m (j + 1) k0 := fun ⟨a, b, h1, h2⟩ => ⟨a, b, by omega, h2⟩
      have skip : ¬ (k.sent = true ∧ k.c = k0.c ∧ k.s = k0.s) → ((u 6 = I i ∧ ¬ sentB m (j + 1) k0) ∨ (u 6 = I (-1) ∧ sentB m (j + 1) k0)) := fun hno => by
        rcases hs with ⟨h1, h2⟩ | ⟨h1, h2⟩
        · refine .inl ⟨h1, fun ⟨a, b, c1, c2, c3⟩ => ?_⟩
          by_cases hq : a = j
          · subst hq; rw [hk] at c2; cases c2; exact hno c3
          · exact h2 ⟨a, b, by omega, c2, c3⟩
        · exact .inr ⟨h1, old h2⟩
      simp [J_precentorlaw25_TraceCauses_20, u7, u3, q1, q2, q6]
      by_cases hsent : k.sent = true
      · by_cases hcc : k.c = k0.c
        · by_cases hss : k.s = k0.s
          · simp [hsent, hcc, hss, u7, u3, u4, q1, q2, q7, q9, r1, r2, r7, r9, J_precentorlaw25_TraceCauses_21, w]
            refine Tells.ok (hQ2 _ _ (.inl ⟨rfl, n - 1, by omega, j + 1, by simp, by omega, rfl, .inr ⟨by simp, ⟨j, k, by omega, hk, hsent, hcc, hss⟩⟩, nx _ fun z hz => ?_⟩))
            simp only [upd]
            repeat rw [if_neg (by omega)]
          · have e : (k.s == k0.s) = false := by simpa using hss
            simp [hsent, hcc, hss, e, u7, u3, u4, q1, q2, q7, q9, r1, r2, r7, r9, J_precentorlaw25_TraceCauses_21, w]
            refine Tells.ok (hQ2 _ _ (.inl ⟨rfl, n - 1, by omega, j + 1, by simp, by omega, rfl, by simpa using skip (fun q => hss q.2.2), nx _ fun z hz => ?_⟩))
            simp only [upd]
            repeat rw [if_neg (by omega)]
        · have e : (k.c == k0.c) = false := by simpa using hcc
          simp [hsent, hcc, e, u7, u3, u4, q1, q2, q7, r1, r2, r7, J_precentorlaw25_TraceCauses_21, w]
          refine Tells.ok (hQ2 _ _ (.inl ⟨rfl, n - 1, by omega, j + 1, by simp, by omega, rfl, by simpa using skip (fun q => hcc q.2.1), nx _ fun z hz => ?_⟩))
          simp only [upd]
          repeat rw [if_neg (by omega)]
      · have e : k.sent = false := by simpa using hsent
        simp [e, J_precentorlaw25_TraceCauses_21, u7, w]
        refine Tells.ok (hQ2 _ _ (.inl ⟨rfl, n - 1, by omega, j + 1, by simp, by omega, rfl, by simpa using skip (fun q => hsent q.1), nx _ fun z hz => ?_⟩))
        simp only [upd]
        repeat rw [if_neg (by omega)]
    · simp at hc
      have : j = i := by omega
      subst this
      refine Tells.ok (hQ2 _ _ (.inr ⟨by simp, rfl, rfl, by simpa using hs, fun z hz => ?_⟩))
      simp only [upd]
      repeat rw [if_neg (by omega)]
      exact fr z hz
  · exact ⟨0, t7, by omega, rfl, .inl ⟨t6, fun ⟨a, b, h, _⟩ => by omega⟩, fun _ _ => rfl⟩

/-- What its client saw ahead of it is among its causes. -/
theorem tc_seen (hX : OnlyKnown X) {g : Heap} {v cv : AVal} {m : List Mk} {i : Nat} {k0 : Mk} {L : Ids} {t : T} (o : Sl mkR g v m) (hl : m.length ≤ 100) (hi : m[i]? = some k0) (oL : Sl idR g cv L) (hL : L.length ≤ 100) (hin : ∀ (j : Nat) (k : Mk), m[j]? = some k → j < i → k.c = k0.c → mid k ∈ L)
    (t3 : t 3 = v) (t4 : t 4 = I i) (t8 : t 8 = cv) (t9 : t 9 = I 0) : Tells (fun q => loopN (L_precentorlaw25_TraceCauses_15 Try.prog (acallX Try.prog X q) q) q t g) fun z g' => z.1 = .exit 4 ∧ Ext [] g g' ∧ ∀ j, j ≤ 8 → z.2 j = t j := by
  have hil := (List.getElem?_eq_some_iff.1 hi).1
  refine Tells.loop (fun n t' g' => ∃ j : Nat, t' 9 = I j ∧ j + n = i ∧ Ext [] g g' ∧ ∀ j, j ≤ 8 → t' j = t j) ?_ i _ _ ?_
  · rintro n u g1 ⟨j, u9, hj, x, fr⟩
    have u3 : u 3 = v := (fr 3 (by decide)).trans t3
    have u4 : u 4 = I i := (fr 4 (by decide)).trans t4
    have u8 : u 8 = cv := (fr 8 (by decide)).trans t8
    refine Tells.prot fun Q2 hQ2 => ?_
    unfold L_precentorlaw25_TraceCauses_15
    simp [u9, u4]
    refine Tells.cb (fun hc => ?_) (fun hc => ?_)
    · simp at hc
      obtain ⟨k, hk⟩ : ∃ k, m[j]? = some k := ⟨_, List.getElem?_eq_getElem (by omega)⟩
      obtain ⟨b, p, B, q1, q2, q3, q4, q5, q6, q7, q8, q9⟩ := mk_at (o.ext x) hk
      have w : IntKind.i64.wrap ((j : Int) + 1) = j + 1 := wrap_id (by omega) (by omega)
      simp [J_precentorlaw25_TraceCauses_16, u9, u3, q1, q2, q8, q9, bldR, fillR, splice]
      refine Tells.newV fun g2 yb oy y2 ly => ?_
      refine Tells.stNE oy (ds := [I k.f, I k.s]) (by rfl) (by rfl) (by rfl) (by rfl) fun g3 oy3 y3 => ?_
      have x3 := x.then (y2.then y3 (S := []) (by simp; omega)) (by simp)
      obtain ⟨b', p', B', r1, r2, r3, r4, r5, r6, r7, r8, r9⟩ := mk_at (o.ext x3) hk
      obtain ⟨b0, p0, B0, s1, s2, s3, s4, s5, s6, s7, s8, s9⟩ := mk_at (o.ext x3) hi
      cases q1.symm.trans r1
      -- what comes of it
      have fin : ∀ (g4 : Heap) (t' : T), Ext [] g g4 → Ob g4 yb (idC (mid k)) → t' 3 = v → t' 4 = I i → t' 8 = cv → t' 9 = I j → t' 10 = .ptr yb 0 → (∀ z, z ≤ 8 → t' z = t z) → Tells (fun z => J_precentorlaw25_TraceCauses_18 Try.prog (acallX Try.prog X z) z (blkK 5 (sqK (J_precentorlaw25_TraceCauses_17 Try.prog (acallX Try.prog X z) z okK) okK)) t' g4) Q2 := by
        intro g4 t' x4 oy4 e3 e4 e8 e9 e10 fr'
        obtain ⟨b', p', B', r1, r2, r3, r4, r5, r6, r7, r8, r9⟩ := mk_at (o.ext x4) hk
        obtain ⟨b0, p0, B0, s1, s2, s3, s4, s5, s6, s7, s8, s9⟩ := mk_at (o.ext x4) hi
        have oye := oy4.1
        simp only [idC] at oye
        unfold J_precentorlaw25_TraceCauses_18
        simp [e3, e9, e4, r1, r2, r7, s1, s2, s7]
        by_cases hcc : k.c = k0.c
        · simp [hcc, e8, e10, oye]
          have hat : Tells (fun q => acallX Try.prog X q F_precentorlaw25_at [cv, .agg [I (mid k).1, I (mid k).2]] g4) _ := law_at hX (oL.ext x4) (by omega) (mid k)
          refine Tells.cbE hat ?_
          rintro _ g5 ⟨rfl, x5⟩
          have hpos := posF_in (hin j k hk hc hcc)
          have hge : ¬ posF L (mid k) - 1 < 0 := by rw [hpos]; omega
          simp [hge, J_precentorlaw25_TraceCauses_17, e9, w]
          refine Tells.ok (hQ2 _ _ (.inl ⟨rfl, n - 1, by omega, j + 1, by simp, by omega, x4.trans x5, fun z hz => ?_⟩))
          simp only [upd]
          repeat rw [if_neg (by omega)]
          exact fr' z hz
        · have e : (k.c == k0.c) = false := by simpa using hcc
          simp [hcc, e, J_precentorlaw25_TraceCauses_17, e9, w]
          refine Tells.ok (hQ2 _ _ (.inl ⟨rfl, n - 1, by omega, j + 1, by simp, by omega, x4, fun z hz => ?_⟩))
          simp only [upd]
          repeat rw [if_neg (by omega)]
          exact fr' z hz
      simp [u9, u3, r1, r2, r6]
      by_cases hsent : k.sent = true
      · simp [hsent, u9, u3, r1, r2, r7]
        refine Tells.st1 oy3 (by rfl) (by rfl) (by simp) fun g4 oy4 y4 => ?_
        have x4 : Ext [] g g4 := x3.then y4 (by simp; have := x.next; omega)
        refine fin g4 _ x4 ?_ (by simp [u3]) (by simp [u4]) (by simp [u8]) (by simp [u9]) (by simp) fun z hz => ?_
        · have : idC (mid k) = [I k.f, I k.s].set 0 (I k.c) := by simp [idC, mid, hsent]
          rw [this]; exact oy4
        · simp only [upd]
          repeat rw [if_neg (by omega)]
          exact fr z hz
      · have e : k.sent = false := by simpa using hsent
        simp [e]
        refine fin g3 _ x3 ?_ (by simp [u3]) (by simp [u4]) (by simp [u8]) (by simp [u9]) (by simp) fun z hz => ?_
        · have : idC (mid k) = [I k.f, I k.s] := by simp [idC, mid, e]
          rw [this]; exact oy3
        · simp only [upd]
          repeat rw [if_neg (by omega)]
          exact fr z hz
    · simp at hc
      refine Tells.ok (hQ2 _ _ (.inr ⟨by simp, rfl, x, fun z hz => ?_⟩))
      simp only [upd]
      repeat rw [if_neg (by omega)]
      exact fr z hz
  · exact ⟨0, t9, by omega, .refl, fun _ _ => rfl⟩

/-- Causes of a cause are causes. -/
theorem tc_all (hX : OnlyKnown X) {g : Heap} {cv dv : AVal} {L D : Ids} {t : T} (oL : Sl idR g cv L) (hL : L.length ≤ 100) (oD : Sl idR g dv D) (hD : D.length ≤ 100) (hin : ∀ z, z ∈ D → z ∈ L) (t8 : t 8 = cv) (t12 : t 12 = dv) (t13 : t 13 = I 0) :
    Tells (fun q => loopN (L_precentorlaw25_TraceCauses_12 Try.prog (acallX Try.prog X q) q) q t g) fun z g' => z.1 = .exit 8 ∧ Ext [] g g' ∧ ∀ j, j ≤ 12 → z.2 j = t j := by
  refine Tells.loop (fun n t' g' => ∃ j : Nat, t' 13 = I j ∧ j + n = D.length ∧ Ext [] g g' ∧ ∀ j, j ≤ 12 → t' j = t j) ?_ D.length _ _ ?_
  · rintro n u g1 ⟨j, u13, hj, x, fr⟩
    have u8 : u 8 = cv := (fr 8 (by decide)).trans t8
    have u12 : u 12 = dv := (fr 12 (by decide)).trans t12
    refine Tells.prot fun Q2 hQ2 => ?_
    unfold L_precentorlaw25_TraceCauses_12
    simp [u13, u12, (oD.ext x).len]
    refine Tells.cb (fun hc => ?_) (fun hc => ?_)
    · simp at hc
      obtain ⟨z, hz⟩ : ∃ z, D[j]? = some z := ⟨_, List.getElem?_eq_getElem hc⟩
      obtain ⟨b, p, B, q1, q2, q3, q4, q5, q6, q7⟩ := id_at (oD.ext x) hz
      have w : IntKind.i64.wrap ((j : Int) + 1) = j + 1 := wrap_id (by omega) (by omega)
      simp [J_precentorlaw25_TraceCauses_13, u13, u12, u8, q1, q2, q3, q4]
      have hat : Tells (fun q => acallX Try.prog X q F_precentorlaw25_at [cv, .agg [I z.1, I z.2]] g1) _ := law_at hX (oL.ext x) (by omega) z
      refine Tells.bind hat ?_
      rintro _ g2 ⟨rfl, x2⟩
      have hpos := posF_in (hin z (List.mem_of_getElem? hz))
      have hge : ¬ posF L z - 1 < 0 := by rw [hpos]; omega
      simp [hge, J_precentorlaw25_TraceCauses_14, u13, w]
      refine Tells.ok (hQ2 _ _ (.inl ⟨rfl, n - 1, by omega, j + 1, by simp, by omega, x.trans x2, fun z hz => ?_⟩))
      simp only [upd]
      repeat rw [if_neg (by omega)]
      exact fr z hz
    · simp at hc
      refine Tells.ok (hQ2 _ _ (.inr ⟨by simp, rfl, x, fun z hz => ?_⟩))
      simp only [upd]
      repeat rw [if_neg (by omega)]
      exact fr z hz
  · exact ⟨0, t13, by omega, .refl, fun _ _ => rfl⟩
end
end Go.Proofs.Ytochkdifpgelmaa

/-! TraceCauses. -/
namespace Go.Proofs.Ytochkdifpgelmaa
open Go.Ab

theorem rise_at : ∀ {L : Ids}, Rise2 L → ∀ {j : Nat} {a b : Int × Int}, L[j]? = some a → L[j + 1]? = some b → lt2 a b = true
  | [], _, j, a, b, h, _ => by simp at h
  | x :: L, h, 0, a, b, h1, h2 => by
    simp at h1; subst h1
    exact (List.pairwise_cons.1 h).1 b (List.mem_of_getElem? (by simpa using h2))
  | x :: L, h, j + 1, a, b, h1, h2 => rise_at (List.pairwise_cons.1 h).2 (by simpa using h1) (by simpa using h2)

section
variable {X : XTab}
theorem tc_cs (hX : OnlyKnown X) {g : Heap} {v cv : AVal} {m : List Mk} {x0 : Int × Int} {L : Ids} {t : T} (o : Sl mkR g v m) (hl : m.length ≤ 100) (oL : Sl idR g cv L) (hL : L.length ≤ 100) (hr : Rise2 L) (hm : ∀ z, z ∈ L ↔ Rch (causeP m) x0 z) (t3 : t 3 = v) (t8 : t 8 = cv) (t11 : t 11 = I 0) :
    Tells (fun q => loopN (L_precentorlaw25_TraceCauses_8 Try.prog (acallX Try.prog X q) q) q t g) fun z g' => z.1 = .exit 6 ∧ Ext [] g g' ∧ ∀ j, j ≤ 8 → z.2 j = t j := by
  refine Tells.loop (fun n t' g' => ∃ j : Nat, t' 11 = I j ∧ j + n = L.length ∧ Ext [] g g' ∧ ∀ j, j ≤ 8 → t' j = t j) ?_ L.length _ _ ?_
  · rintro n u g1 ⟨j, u11, hj, x, fr⟩
    have u3 : u 3 = v := (fr 3 (by decide)).trans t3
    have u8 : u 8 = cv := (fr 8 (by decide)).trans t8
    refine Tells.prot fun Q2 hQ2 => ?_
    unfold L_precentorlaw25_TraceCauses_8
    simp [u11, u8, (oL.ext x).len]
    refine Tells.cb (fun hc => ?_) (fun hc => ?_)
    · simp at hc
      obtain ⟨z, hz⟩ : ∃ z, L[j]? = some z := ⟨_, List.getElem?_eq_getElem hc⟩
      obtain ⟨b, p, B, q1, q2, q3, q4, q5, q6, q7⟩ := id_at (oL.ext x) hz
      have w : IntKind.i64.wrap ((j : Int) + 1) = j + 1 := wrap_id (by omega) (by omega)
      have fin : ∀ (t' : T), t' 3 = v → t' 8 = cv → t' 11 = I j → (∀ i, i ≤ 8 → t' i = t i) → Tells (fun q => J_precentorlaw25_TraceCauses_11 Try.prog (acallX Try.prog X q) q (blkK 7 (sqK (J_precentorlaw25_TraceCauses_10 Try.prog (acallX Try.prog X q) q okK) okK)) t' g1) Q2 := by
        intro t' e3 e8 e11 fr'
        unfold J_precentorlaw25_TraceCauses_11
        simp [e3, e8, e11, q1, q2, q3, q4]
        have hcs : Tells (fun q => acallX Try.prog X q F_trace_Causes [v, .agg [I z.1, I z.2]] g1) _ := trace_Causes hX (o.ext x) hl z
        refine Tells.bind hcs ?_
        rintro dv g2 ⟨D, oD, hDr, hDm, hDl, x2⟩
        try simp
        refine Tells.bind (tc_all hX (cv := cv) (dv := dv) ((oL.ext x).ext x2) hL oD hDl (fun y hy => ?_) (by simp [e8]) (by simp) (by simp)) ?_
        · rw [hm]
          exact ((hm z).1 (List.mem_of_getElem? hz)).trans ((hDm y).1 hy)
        · rintro ⟨ex, u2⟩ g3 ⟨rfl, x3, fr2⟩
          have k11 : u2 11 = I j := (fr2 11 (by decide)).trans (by simp [e11])
          simp [J_precentorlaw25_TraceCauses_10, k11, w]
          refine Tells.ok (hQ2 _ _ (.inl ⟨rfl, n - 1, by omega, j + 1, by simp, by omega, (x.trans x2).trans x3, fun i hi => ?_⟩))
          have : u2 i = _ := fr2 i (by omega)
          simp only [upd]
          repeat rw [if_neg (by omega)]
          rw [this]
          simp only [upd]
          repeat rw [if_neg (by omega)]
          exact fr' i hi
      simp [J_precentorlaw25_TraceCauses_9, u11]
      cases j with
      | zero =>
        simp
        exact fin _ (by simp [u3]) (by simp [u8]) (by simp [u11]) fun i hi => by
          simp only [upd]
          repeat rw [if_neg (by omega)]
          exact fr i hi
      | succ j =>
        obtain ⟨a, ha⟩ : ∃ a, L[j]? = some a := ⟨_, List.getElem?_eq_getElem (by omega)⟩
        have hlt := rise_at hr ha hz
        rw [lt2_iff] at hlt
        obtain ⟨b', p', B', r1, r2, r3, r4, r5, r6, r7⟩ := id_at (oL.ext x) ha
        have hpos : (0 : Int) < (j : Int) + 1 := by omega
        have wm : IntKind.i64.wrap (j : Int) = j := wrap_id (by omega) (by omega)
        have q1' : ixsR 2 cv (.int .i64 ((j : Int) + 1)) = some (.ptr b p) := by simpa using q1
        by_cases h1 : a.1 < z.1
        · have e1 : ¬ z.1 < a.1 := by omega
          have e2 : (a.1 == z.1) = false := by simp; omega
          have e2' : ¬ a.1 = z.1 := by omega
          simp [hpos, u11, u8, wm, q1', q2, q6, q7, r1, r2, r6, r7, e1, e2, e2']
          exact fin _ (by simp [u3]) (by simp [u8]) (by simp [u11]) fun i hi => by
            simp only [upd]
            repeat rw [if_neg (by omega)]
            exact fr i hi
        · have e1 : a.1 = z.1 := by omega
          have e2 : ¬ z.2 ≤ a.2 := by omega
          simp [hpos, u11, u8, wm, q1', q2, q6, q7, r1, r2, r6, r7, e1, e2]
          exact fin _ (by simp [u3]) (by simp [u8]) (by simp [u11]) fun i hi => by
            simp only [upd]
            repeat rw [if_neg (by omega)]
            exact fr i hi
    · simp at hc
      refine Tells.ok (hQ2 _ _ (.inr ⟨by simp, rfl, x, fun z hz => ?_⟩))
      simp only [upd]
      repeat rw [if_neg (by omega)]
      exact fr z hz
  · exact ⟨0, t11, by omega, .refl, fun _ _ => rfl⟩

theorem traceCauses_ (hX : OnlyKnown X) (hk : X F_precentorlaw25_known [] = some (.bool true)) {h : Heap} {v1 : AVal} {xs1 : List Int} (r1 : RawInts h v1 xs1) : Tells (fun q => acallX Try.prog X q F_precentorlaw25_TraceCauses [v1] h) fun v _ => v = .bool true := by
  refine R_precentorlaw25_TraceCauses _ (hX _ _ rfl) ?_
  refine Tells.prot fun Q' hQ => ?_
  unfold S_precentorlaw25_TraceCauses
  simp
  refine Tells.bind (law_marks hX (odd := false) r1 (.inl (Sl.nil (r := mkR)))) ?_
  rintro mv g0 ⟨gm, wm, x1⟩
  have hml := marksL_len xs1 [] false
  generalize marksL xs1 [] false = m at *
  have hl : m.length ≤ 100 := by omega
  have o := gm.1
  try simp
  refine Tells.bind (Tells.loop (fun n t g => ∃ i : Nat, t 3 = mv ∧ t 4 = I i ∧ i + n = m.length ∧ Ext [] g0 g)
    (Q := fun p g => p.1 = .exit 0 ∧ Ext [] g0 g) ?_ m.length _ _ ?_) ?_
  · rintro n t g ⟨i, t3, t4, hi, x⟩
    refine Tells.prot fun Q2 hQ2 => ?_
    unfold L_precentorlaw25_TraceCauses_1
    simp [t3, t4, (o.ext x).len]
    refine Tells.cb (fun hc => ?_) (fun hc => ?_)
    · simp at hc
      obtain ⟨k0, hk0⟩ : ∃ k, m[i]? = some k := ⟨_, List.getElem?_eq_getElem hc⟩
      obtain ⟨b, p, B, q1, q2, q3, q4, q5, q6, q7, q8, q9⟩ := mk_at (o.ext x) hk0
      have w : IntKind.i64.wrap ((i : Int) + 1) = i + 1 := wrap_id (by omega) (by omega)
      simp [J_precentorlaw25_TraceCauses_2, t3, t4, q1, q2, q6]
      by_cases hs : k0.sent = true
      · simp [hs, J_precentorlaw25_TraceCauses_4, t3, t4, q1, q2, q7, q9, bldR, fillR, splice]
        refine Tells.newV fun g2 xb ox y2 lx => ?_
        refine Tells.stNE ox (ds := [I k0.c, I k0.s]) (by rfl) (by rfl) (by rfl) (by rfl) fun g3 ox3 y3 => ?_
        have x3 : Ext [] g0 g3 := x.then (y2.then y3 (S := []) (by simp; omega)) (by simp)
        try simp [t4]
        refine Tells.bind (tc_first (i := i) (k0 := k0) (o.ext x3) hl hk0 (by simp [t3]) (by simp [t4]) (by simp) (by simp)) ?_
        rintro ⟨ex, u⟩ g3 ⟨rfl, rfl, hfs, fr⟩
        have u3 : u 3 = mv := (fr 3 (by decide)).trans (by simp [t3])
        have u4 : u 4 = I i := (fr 4 (by decide)).trans (by simp [t4])
        have u5 : u 5 = .ptr xb 0 := (fr 5 (by decide)).trans (by simp)
        rcases hfs with ⟨u6, hno⟩ | ⟨u6, hyes⟩
        · have u6 : u 6 = I i := u6
          have hge : ¬ (i : Int) < 0 := by omega
          have oxe := ox3.1
          have hfirst : firstS m (k0.c, k0.s) = i := by
            refine firstS_some hk0 (by simp [isSent, hs, mid]) fun k hkk => ?_
            cases hb : isSent (k0.c, k0.s) k with
            | false => rfl
            | true =>
              obtain ⟨j, hj⟩ := List.mem_iff_getElem?.1 hkk
              have hji : j < i := by have := (List.getElem?_eq_some_iff.1 hj).1; simp at this; omega
              rw [List.getElem?_take, if_pos hji] at hj
              simp [isSent] at hb
              have hm := hb.2
              simp [mid, hb.1] at hm
              exact absurd ⟨j, k, hji, hj, hb.1, hm.1, hm.2⟩ hno
          simp [J_precentorlaw25_TraceCauses_5, u6, hge, J_precentorlaw25_TraceCauses_6, u3, u5, oxe]
          have hcs : Tells (fun q => acallX Try.prog X q F_trace_Causes [mv, .agg [I k0.c, I k0.s]] g3) _ := trace_Causes hX (o.ext x3) hl (k0.c, k0.s)
          refine Tells.bind hcs ?_
          rintro cv g4 ⟨L, oL, hLr, hLm, hLl, x4⟩
          try simp
          refine Tells.bind (tc_seen hX (i := i) (k0 := k0) (L := L) (cv := cv) ((o.ext x3).ext x4) hl hk0 oL hLl (fun j k hj hji hcc => ?_) (by simp [u3]) (by simp [u4]) (by simp) (by simp)) ?_
          · rw [hLm]
            exact .one ⟨j, k, hj, by rw [hfirst]; omega, hcc, rfl⟩
          · rintro ⟨ex, u2⟩ g5 ⟨rfl, x5, fr2⟩
            have k3 : u2 3 = mv := (fr2 3 (by decide)).trans (by simp [u3])
            have k4 : u2 4 = I i := (fr2 4 (by decide)).trans (by simp [u4])
            have k8 : u2 8 = cv := (fr2 8 (by decide)).trans (by simp)
            simp [J_precentorlaw25_TraceCauses_7]
            refine Tells.bind (tc_cs hX (x0 := (k0.c, k0.s)) (L := L) (cv := cv) (((o.ext x3).ext x4).ext x5) hl (oL.ext x5) hLl hLr hLm (by simp [k3]) (by simp [k8]) (by simp)) ?_
            rintro ⟨ex, u3'⟩ g6 ⟨rfl, x6, fr3⟩
            have j3 : u3' 3 = mv := (fr3 3 (by decide)).trans (by simp [k3])
            have j4 : u3' 4 = I i := (fr3 4 (by decide)).trans (by simp [k4])
            simp [J_precentorlaw25_TraceCauses_3, j4, w]
            exact Tells.ok (hQ2 _ _ (.inl ⟨rfl, n - 1, by omega, i + 1, by simp [j3], by simp, by omega, ((x3.trans x4).trans x5).trans x6⟩))
        · have u6 : u 6 = I (-1) := u6
          simp [J_precentorlaw25_TraceCauses_5, u6, J_precentorlaw25_TraceCauses_3, u4, w]
          exact Tells.ok (hQ2 _ _ (.inl ⟨rfl, n - 1, by omega, i + 1, by simp [u3], by simp, by omega, x3⟩))
      · have e : k0.sent = false := by simpa using hs
        simp [e, J_precentorlaw25_TraceCauses_3, t4, w]
        exact Tells.ok (hQ2 _ _ (.inl ⟨rfl, n - 1, by omega, i + 1, by simp [t3], by simp, by omega, x⟩))
    · simp at hc
      exact Tells.ok (hQ2 _ _ (.inr ⟨by simp, rfl, x⟩))
  · exact ⟨0, by simp, by simp, by omega, .refl⟩
  · rintro ⟨ex, t⟩ g ⟨rfl, x⟩
    simp [J_precentorlaw25_TraceCauses_0]
    refine Tells.bind (known_X hk g) ?_
    rintro _ g2 ⟨rfl, rfl⟩
    try simp
    exact Tells.ok (hQ _ _ rfl)
end
end Go.Proofs.Ytochkdifpgelmaa
