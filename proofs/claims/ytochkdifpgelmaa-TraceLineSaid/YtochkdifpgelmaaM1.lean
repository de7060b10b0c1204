/-
  Texts of a claim, merged: Trc8, TrP, Law25b, TrL, Law25d, Law25e, Law25f.
-/
import Derived.Test.YtochkdifpgelmaaM0
set_option linter.unusedVariables false
set_option linter.unusedSimpArgs false
/-! What trace's Causes tells. -/
namespace Go.Proofs.Ytochkdifpgelmaa
open Go.Ab

def knF (ks : List (Int × Int)) (z : Int × Int) : Int := if z ∈ ks then 1 else 0
theorem knF_app {ks : List (Int × Int)} {z : Int × Int} : updF (knF ks) z 1 = knF (ks ++ [z]) := by
  funext y
  unfold updF knF
  by_cases q : y = z
  · subst q; simp
  · simp [q]

/-- What has been found so far. -/
structure Fnd (l : List Mk) (h0 g : Heap) (kb : Nat) (vo vt : AVal) (L ks T : List (Int × Int)) : Prop where
  sl : Sl idR g vo L
  rise : Rise2 L
  mem : ∀ z, z ∈ L ↔ z ∈ ks
  len : L.length ≤ ks.length
  gl : Gl idR h0 g vt T
  mp : Mp (kTwo Try.prog 30 two30) g kb ks (knF ks)
  ids : ∀ z, z ∈ ks → z ∈ l.map mid
  base : h0.next ≤ g.next
theorem Fnd.kl {l : List Mk} {h0 g : Heap} {kb : Nat} {vo vt : AVal} {L ks T : List (Int × Int)} (f : Fnd l h0 g kb vo vt L ks T) : ks.length ≤ l.length := by
  have := nodup_sub_len f.mp.nd f.ids
  simpa using this
theorem Fnd.ext {l : List Mk} {h0 g g' : Heap} {kb : Nat} {vo vt : AVal} {L ks T : List (Int × Int)} {S : List Nat} (f : Fnd l h0 g kb vo vt L ks T) (e : Ext S g g') (hk : kb ∉ S) (hs : ∀ b, b ∈ S → g.isM b = true ∨ g.next ≤ b) : Fnd l h0 g' kb vo vt L ks T :=
  ⟨f.sl.ext e, f.rise, f.mem, f.len, f.gl.extO e hs, f.mp.ext e hk, f.ids, Nat.le_trans f.base e.next⟩
theorem Fnd.e {l : List Mk} {h0 g g' : Heap} {kb : Nat} {vo vt : AVal} {L ks T : List (Int × Int)} (f : Fnd l h0 g kb vo vt L ks T) (e : Ext [] g g') : Fnd l h0 g' kb vo vt L ks T := f.ext e (by simp) (by simp)

section
variable {X : XTab}
theorem causesI (hX : OnlyKnown X) {h0 g : Heap} {v vo vt : AVal} {l : List Mk} {y : Int × Int} {yb kb db : Nat} {fr0 : Nat} {en : Int} {kd : List Int} {D : Int → Int} {L ks0 T0 : List (Int × Int)} {t : T} (o : Sl mkR h0 v l) (hl : l.length ≤ 100) (hen : en ≤ l.length) (hfr : fr0 ≤ 100) (f : Fnd l h0 g kb vo vt L ks0 T0) (hT : T0.length ≤ 1000)
    (ob : Ob g yb (idC y)) (hd : Mp (kInt Try.prog 3 ui64) g db kd D) (hkd : kb ≠ db) (hky : kb ≠ yb) (x0 : Ext [] h0 g) (hk0 : h0.next ≤ kb) (t0 : t 0 = v) (t5 : t 5 = vo) (t6 : t 6 = vt) (t8 : t 8 = .mp kb) (t9 : t 9 = .ptr yb 0) (t11 : t 11 = I en) (t12 : t 12 = I fr0) :
    Tells (fun q => loopN (L_trace_Causes_3 Try.prog (acallX Try.prog X q) q) q t g) fun z g' => z.1 = .exit 2 ∧ ∃ L ks T, Fnd l h0 g' kb (z.2 5) (z.2 6) L ks T ∧ Mp (kInt Try.prog 3 ui64) g' db kd D ∧ Ext [] h0 g' ∧ g.next ≤ g'.next ∧ T.length + ks0.length = ks.length + T0.length ∧ (∀ z, z ∈ ks0 → z ∈ ks) ∧ (∀ z, z ∈ T0 → z ∈ T) ∧
      (∀ z, z ∈ T → z ∈ T0 ∨ z ∈ ks) ∧ (∀ z, z ∈ ks → z ∈ ks0 ∨ z ∈ T) ∧ (∀ z, z ∈ ks → z ∈ ks0 ∨ ∃ (i : Nat) (m : Mk), l[i]? = some m ∧ (i : Int) < en ∧ m.c = y.1 ∧ mid m = z) ∧ (∀ (j : Nat) (m : Mk), l[j]? = some m → fr0 ≤ j → (j : Int) < en → m.c = y.1 → mid m ∈ ks) ∧
      ∀ i, i ≤ 4 ∨ i = 7 ∨ i = 8 → z.2 i = t i := by
  refine Tells.loop (fun n t' g' => ∃ (i : Nat) (L ks T : List (Int × Int)), t' 12 = I i ∧ fr0 ≤ i ∧ (i : Int) + n = max (fr0 : Int) en ∧ Fnd l h0 g' kb (t' 5) (t' 6) L ks T ∧ Ob g' yb (idC y) ∧ Mp (kInt Try.prog 3 ui64) g' db kd D ∧ Ext [] h0 g' ∧ g.next ≤ g'.next ∧ T.length + ks0.length = ks.length + T0.length ∧ (∀ z, z ∈ ks0 → z ∈ ks) ∧ (∀ z, z ∈ T0 → z ∈ T) ∧
      (∀ z, z ∈ T → z ∈ T0 ∨ z ∈ ks) ∧ (∀ z, z ∈ ks → z ∈ ks0 ∨ z ∈ T) ∧ (∀ z, z ∈ ks → z ∈ ks0 ∨ ∃ (i : Nat) (m : Mk), l[i]? = some m ∧ (i : Int) < en ∧ m.c = y.1 ∧ mid m = z) ∧ (∀ (j : Nat) (m : Mk), l[j]? = some m → fr0 ≤ j → j < i → m.c = y.1 → mid m ∈ ks) ∧
      ∀ i, i ≤ 4 ∨ i = 7 ∨ i = 8 ∨ i = 9 ∨ i = 11 → t' i = t i) ?_ (max (fr0 : Int) en - fr0).toNat _ _ ?_
  · rintro n u g1 ⟨i, L, ks, T, u12, hfi, hi, f1, ob1, hd1, x1, hgn, hlen, hks, hT0, hT1, hT2, hsnd, hprog, fr⟩
    have u0 : u 0 = v := (fr 0 (by decide)).trans t0
    have u8 : u 8 = .mp kb := (fr 8 (by decide)).trans t8
    have u9 : u 9 = .ptr yb 0 := (fr 9 (by decide)).trans t9
    have u11 : u 11 = I en := (fr 11 (by decide)).trans t11
    refine Tells.prot fun Q2 hQ2 => ?_
    unfold L_trace_Causes_3
    simp [u12, u11]
    refine Tells.cb (fun hc => ?_) (fun hc => ?_)
    · simp at hc
      have hil : i < l.length := by omega
      obtain ⟨m, hm⟩ : ∃ m, l[i]? = some m := ⟨_, List.getElem?_eq_getElem hil⟩
      obtain ⟨b, p, B, q1, q2, q3, q4, q5, q6, q7, q8, q9⟩ := mk_at (o.ext x1) hm
      have w : IntKind.i64.wrap ((i : Int) + 1) = i + 1 := wrap_id (by omega) (by omega)
      have obe := ob1.1
      simp only [idC] at obe
      have nx : ((i + 1 : Nat) : Int) + ((n - 1 : Nat) : Int) = max (fr0 : Int) en := by omega
      have keep : (m.c = y.1 → mid m ∈ ks) → ∀ (j : Nat) (k : Mk), l[j]? = some k → fr0 ≤ j → j < i + 1 → k.c = y.1 → mid k ∈ ks := fun hh j k hj h1 h2 h3 => by
        by_cases q : j = i
        · subst q; rw [hm] at hj; cases hj; exact hh h3
        · exact hprog j k hj h1 (by omega) h3
      simp [J_trace_Causes_4, u12, u0, u9, q1, q2, q3, q4, q7, obe]
      by_cases hmc : m.c = y.1
      · simp [hmc, J_trace_Causes_6, u12, u0, q1, q2, q3, q4]
        refine Tells.bind (by simpa [mkC, hmc] using trace_id hX m g1) ?_
        rintro _ g2 ⟨rfl, y2⟩
        try simp
        refine Tells.newSt (ds := idC (mid m)) (by rfl) (by rfl) (by rfl) (by rfl) fun g3 bz oz y3 l3 => ?_
        have f3 := (f1.e y2).e y3
        have x3 := (x1.trans y2).trans y3
        have ob3 := (ob1.e y2).e y3
        have hd3 := (hd1.e y2).e y3
        have hkb := f1.mp.ob.lt
        have nx2 := y2.next
        have nx3 := y3.next
        have e := f3.mp.look2 mt47 tz3 (mid m)
        simp [oz.1, idC, u8, e]
        by_cases hin : mid m ∈ ks
        · have ek : knF ks (mid m) = 1 := if_pos hin
          simp [ek, J_trace_Causes_5, u12, w]
          refine Tells.ok (hQ2 _ _ (.inl ⟨rfl, n - 1, by omega, i + 1, L, ks, T, by simp, by omega, nx, by simpa using f3, ob3, hd3, x3, by omega, hlen, hks, hT0, hT1, hT2, hsnd, keep fun _ => hin, fun j hj => ?_⟩))
          simp only [upd]
          repeat rw [if_neg (by omega)]
          exact fr j hj
        · have ek : knF ks (mid m) = 0 := if_neg hin
          simp [ek, oz.1, idC, u8]
          refine Tells.mset f3.mp mt47 (a := mid m) (κ := .agg [I (mid m).1, I (mid m).2]) (by rfl) fun g4 M4 y4 => ?_
          rw [insK_new hin, knF_app] at M4
          have nk : ∀ b, b ∈ [kb] → g3.isM b = true ∨ g3.next ≤ b := fun b hb => by simp at hb; subst hb; exact .inl f3.mp.ob.2.1
          have oz4 := oz.ext y4 (by simp; omega)
          have ob4 := ob3.ext y4 (by simp; exact fun q => hky q.symm)
          have hd4 := hd3.ext y4 (by simp; exact fun q => hkd q.symm)
          have sl4 := f3.sl.ext y4
          have gl4 := f3.gl.extO y4 nk
          have x4 := x3.then y4 (by simp; omega)
          have oze := oz4.1
          simp only [idC] at oze
          have kl := f1.kl
          have hLl := f1.len
          simp [oze]
          refine Tells.bind (by simpa [idC] using trace_lay hX sl4 (by omega) (mid m)) ?_
          rintro lv g5 ⟨sl5, y5⟩
          have oz5 := (oz4.e y5).1
          simp only [idC] at oz5
          have x5 := x4.trans y5
          simp [oz5]
          refine Tells.app1 (r := idR) (c := [I (mid m).1, I (mid m).2]) (x := mid m) (gl4.e y5) (by rfl) (by rfl) (by rfl) (by rfl) (by rfl) (by omega) (by decide) x5.next fun s6 g6 go6 y6 y6' z6 => ?_
          have nob : ∀ d cs, Ob g5 d cs → d ∉ (u 6).blks := fun d cs od => (gl4.e y5).1.ob od
          simp [J_trace_Causes_5, u12, w]
          obtain ⟨lr, lm, ll⟩ := layF_ok (y := mid m) f1.rise
          refine Tells.ok (hQ2 _ _ (.inl ⟨rfl, n - 1, by omega, i + 1, layF L (mid m), ks ++ [mid m], T ++ [mid m], by simp, by omega, nx, ⟨?_, lr, ?_, ?_, ?_, ?_, ?_, ?_⟩, ?_, ?_, y6' _ x5, ?_, ?_, ?_, ?_, ?_, ?_, ?_, ?_, fun j hj => ?_⟩))
          · simpa using sl5.ext y6
          · intro z; rw [lm, f1.mem]; simp [or_comm]
          · simp; omega
          · simpa using go6
          · exact (M4.e y5).ext y6 (nob _ _ (M4.e y5).ob)
          · intro z hz
            rcases List.mem_append.1 hz with q | q
            · exact f1.ids z q
            · simp at q; rw [q]; exact List.mem_map_of_mem (List.mem_of_getElem? hm)
          · exact (y6' _ x5).next
          · exact (ob4.e y5).ext y6 (nob _ _ (ob4.e y5))
          · exact (hd4.e y5).ext y6 (nob _ _ (hd4.e y5).ob)
          · have := y4.next; have := y5.next; have := y6.next; omega
          · simp; omega
          · intro z hz; simp [hks z hz]
          · intro z hz; simp [hT0 z hz]
          · intro z hz
            rcases List.mem_append.1 hz with q | q
            · exact (hT1 z q).imp_right fun r => by simp [r]
            · exact .inr (by simp at q; simp [q])
          · intro z hz
            rcases List.mem_append.1 hz with q | q
            · exact (hT2 z q).imp_right fun r => by simp [r]
            · exact .inr (by simp at q; simp [q])
          · intro z hz
            rcases List.mem_append.1 hz with q | q
            · exact hsnd z q
            · simp at q; exact .inr ⟨i, m, hm, by omega, hmc, q.symm⟩
          · intro j k hj h1 h2 h3
            by_cases q : j = i
            · subst q; rw [hm] at hj; cases hj; simp
            · simp [hprog j k hj h1 (by omega) h3]
          · simp only [upd]
            repeat rw [if_neg (by omega)]
            exact fr j hj
      · have hmc' : (m.c == y.1) = false := by simpa using hmc
        have hmc2 : (m.c != y.1) = true := by simpa using hmc
        simp [hmc, hmc', hmc2, J_trace_Causes_5, u12, w]
        refine Tells.ok (hQ2 _ _ (.inl ⟨rfl, n - 1, by omega, i + 1, L, ks, T, by simp, by omega, nx, by simpa using f1, ob1, hd1, x1, hgn, hlen, hks, hT0, hT1, hT2, hsnd, keep fun q => absurd q hmc, fun j hj => ?_⟩))
        simp only [upd]
        repeat rw [if_neg (by omega)]
        exact fr j hj
    · simp at hc
      refine Tells.ok (hQ2 _ _ (.inr ⟨by simp, rfl, L, ks, T, by simpa using f1, hd1, x1, hgn, hlen, hks, hT0, hT1, hT2, hsnd, fun j m h1 h2 h3 => hprog j m h1 h2 (by omega), fun j hj => ?_⟩))
      simp only [upd]
      repeat rw [if_neg (by omega)]
      exact fr j (by omega)
  · exact ⟨fr0, L, ks0, T0, t12, by omega, by omega, by rw [t5, t6]; exact f, ob, hd, x0, by omega, by omega, fun _ h => h, fun _ h => h, fun _ h => .inl h, fun _ h => .inl h, fun _ h => .inl h, fun j m h1 h2 h3 => by omega, fun _ _ => rfl⟩

theorem trace_Causes (hX : OnlyKnown X) {h : Heap} {v : AVal} {l : List Mk} (o : Sl mkR h v l) (hl : l.length ≤ 100) (x : Int × Int) : Tells (fun q => acallX Try.prog X q F_trace_Causes [v, .agg (idC x)] h) fun r h' =>
    ∃ L, Sl idR h' r L ∧ Rise2 L ∧ (∀ z, z ∈ L ↔ Rch (causeP l) x z) ∧ L.length ≤ 100 ∧ Ext [] h h' := by
  refine R_trace_Causes _ _ (hX _ _ rfl) ?_
  refine Tells.prot fun Q' hQ => ?_
  unfold S_trace_Causes
  simp
  refine Tells.box (cs := idC x) (by rfl) (by rfl) fun h1 bx ox x1 lx => ?_
  have oxe := ox.1
  simp only [idC] at oxe
  simp [oxe]
  refine Tells.lit (r := idR) (xs := [x]) (css := [[I x.1, I x.2]]) (by rfl) ⟨rfl, trivial⟩ (by rfl) (by simp) (bsl1_agg (by rfl) (by rfl)) fun v1 h2 g1 x2 hb => ?_
  obtain ⟨m1, x3⟩ := Mp.make (K := kInt Try.prog 3 ui64) h2
  obtain ⟨m2, x4⟩ := Mp.make (K := kTwo Try.prog 30 two30) (h2.new true [])
  have lt1 : h2.next < (h2.new true []).next := m1.ob.lt
  have lt2' : (h2.new true []).next < ((h2.new true []).new true []).next := m2.ob.lt
  have x04 := ((x1.trans x2).trans x3).trans x4
  have hh2 := (x1.trans x2).next
  try simp
  refine Tells.bind (Tells.loop (fun n t g => ∃ (L ks T : List (Int × Int)) (kd : List Int) (D : Int → Int), t 0 = v ∧ t 7 = .mp h2.next ∧ t 8 = .mp (h2.new true []).next ∧ Fnd l h g (h2.new true []).next (t 5) (t 6) L ks T ∧ Mp (kInt Try.prog 3 ui64) g h2.next kd D ∧ Ext [] h g ∧ n + ks.length = T.length + l.length ∧ T.length ≤ ks.length + 1 ∧
      (∀ (j : Nat) (m : Mk), l[j]? = some m → (j : Int) < D m.c → mid m ∈ ks) ∧ (∀ z, z = x ∨ z ∈ ks → z ∈ T ∨ firstS l z ≤ D z.1) ∧ (∀ z, z ∈ ks → Rch (causeP l) x z) ∧ (∀ z, z ∈ T → z = x ∨ z ∈ ks) ∧ (∀ c, 0 ≤ D c ∧ D c ≤ 100))
    (Q := fun p g => p.1 = .exit 0 ∧ Ext [] h g ∧ ∃ L, Sl idR g (p.2 5) L ∧ Rise2 L ∧ (∀ z, z ∈ L ↔ Rch (causeP l) x z) ∧ L.length ≤ 100) ?_ (1 + l.length) _ _ ?_) ?_
  · rintro n t g ⟨L, ks, T, kd, D, t0, t7, t8, f, md, xg, hn, hTl, o1, o2, o3, o3', o4⟩
    refine Tells.prot fun Q2 hQ2 => ?_
    unfold L_trace_Causes_1
    simp [f.gl.1.len]
    cases T with
    | nil =>
      simp
      refine Tells.ok (hQ2 _ _ (.inr ⟨by simp, rfl, xg, L, by simpa using f.sl, f.rise, fun z => ?_, ?_⟩))
      · rw [f.mem]
        refine ⟨o3 z, fun hz => reach_all o1 (fun z hz => ?_) hz⟩
        rcases o2 z hz with q | q
        · simp at q
        · exact q
      · have := f.len
        have := f.kl
        omega
    | cons y T =>
      obtain ⟨b3, p3, B3, r1, r2, r3, r4, r5, _⟩ := id_at f.gl.1 (i := 0) (x := y) rfl
      have r1' : ixsR 2 (t 6) (.int .i64 0) = some (.ptr b3 p3) := r1
      have hpos : (0 : Int) < ((T.length : Int) + 1) := by omega
      simp [hpos, J_trace_Causes_2, r1', r2, r3, r4]
      refine Tells.newSt (ds := idC y) (by rfl) (by rfl) (by rfl) (by rfl) fun g1 yb oy y1 ly => ?_
      have f1 := f.e y1
      have md1 := md.e y1
      obtain ⟨v', s1, s2, s3⟩ := gl_dropI (n := 2) (lo := 1) f1.gl rfl (by simp)
      have s1' : slcR 2 (t 6) (some (.int .i64 1)) none none = some v' := s1
      have e := md1.look1 mt46 tz3 y.1
      have oye := oy.1
      simp only [idC] at oye
      simp [s1', t7, t0, oye, e]
      refine Tells.cbE (by simpa [idC] using trace_first hX ((o.ext xg).ext y1) hl y) ?_
      rintro _ g2 ⟨rfl, y2⟩
      have md2 := md1.e y2
      have e2 := md2.look1 mt46 tz3 y.1
      have oy2 := oy.e y2
      have oye2 := oy2.1
      simp only [idC] at oye2
      have hD := o4 y.1
      have kl00 := f.kl
      have hen := firstS_ge l y
      have hkb := f.mp.ob.lt
      have hdb := md.ob.lt
      simp [t7, t0, oye2, e2]
      refine Tells.mset (n := if D y.1 < firstS l y then firstS l y else D y.1) md2 mt46 (a := y.1) (by rfl) fun g3 M3 y3 => ?_
      have hkd : (h2.new true []).next ≠ h2.next := by omega
      have f3 := (f1.e y2).ext y3 (by simp; exact hkd) (fun b hb => by simp at hb; subst hb; exact .inl md2.ob.2.1)
      have oy3 := oy2.ext y3 (by simp; omega)
      have xg2 := (xg.trans y1).trans y2
      have xg3 := xg2.then y3 (by simp; omega)
      have hDn : (I (D y.1)) = I (((D y.1).toNat : Nat) : Int) := by rw [Int.toNat_of_nonneg hD.1]
      have f3' : Fnd l h g3 (h2.new true []).next (t 5) v' L ks T := ⟨f3.sl, f3.rise, f3.mem, f3.len, by
        have s2' : Gl idR h g1 v' T := by simpa using s2
        exact (s2'.e y2).extO y3 (fun b hb => by simp at hb; subst hb; exact .inl md2.ob.2.1), f3.mp, f3.ids, f3.base⟩
      try simp
      simp only [List.length_cons] at hn hTl
      refine Tells.bind (causesI hX (h0 := h) (y := y) (yb := yb) (kb := (h2.new true []).next) (db := h2.next) (fr0 := (D y.1).toNat) (en := firstS l y) (vo := t 5) (vt := v') o hl hen.2 (by omega) f3' (by omega) oy3 M3 hkd (by omega) xg3 (by omega) (by simp [t0]) (by simp) (by simp) (by simp [t8]) (by simp) (by simp) (by simp [hDn])) ?_
      rintro ⟨ex, u⟩ g4 ⟨rfl, L', ks', T', f4, md4, xg4, hg4, hlen, hks, hT0, hT1, hT2, hsnd, hprog, fr⟩
      have u0 : u 0 = v := (fr 0 (by decide)).trans (by simp [t0])
      have u7 : u 7 = .mp h2.next := (fr 7 (by decide)).trans (by simp [t7])
      have u8 : u 8 = .mp (h2.new true []).next := (fr 8 (by decide)).trans (by simp [t8])
      have kl := f4.kl
      have kl0 := f.kl
      have hmax : (if D y.1 < firstS l y then firstS l y else D y.1) = max (D y.1) (firstS l y) := by split <;> omega
      simp
      refine Tells.ok (hQ2 _ _ (.inl ⟨rfl, n - 1, by omega, L', ks', T', _, _, u0, u7, u8, f4, md4, xg4, by omega, by omega, fun j m hj hlt => ?_, fun z hz => ?_, fun z hz => ?_, fun z hz => ?_, fun c => ?_⟩))
      · rw [hmax] at hlt
        unfold updF at hlt
        by_cases hc : m.c = y.1
        · rw [if_pos hc] at hlt
          by_cases hjd : (j : Int) < D y.1
          · exact hks _ (o1 j m hj (by rw [hc]; exact hjd))
          · exact hprog j m hj (by omega) (by omega) hc
        · rw [if_neg hc] at hlt
          exact hks _ (o1 j m hj hlt)
      · rw [hmax]
        have up : ∀ z : Int × Int, firstS l z ≤ D z.1 → firstS l z ≤ updF D y.1 (max (D y.1) (firstS l y)) z.1 := fun z hz => by
          unfold updF
          by_cases hc : z.1 = y.1
          · rw [if_pos hc]; rw [hc] at hz; omega
          · rw [if_neg hc]; exact hz
        by_cases hzy : z = y
        · subst hzy
          right
          unfold updF
          rw [if_pos rfl]; omega
        · have old : z = x ∨ z ∈ ks → z ∈ T' ∨ firstS l z ≤ updF D y.1 (max (D y.1) (firstS l y)) z.1 := fun hz => by
            rcases o2 z hz with q | q
            · rcases List.mem_cons.1 q with r | r
              · exact absurd r hzy
              · exact .inl (hT0 z r)
            · exact .inr (up z q)
          rcases hz with q | q
          · exact old (.inl q)
          · rcases hT2 z q with r | r
            · exact old (.inr r)
            · exact .inl r
      · rcases hsnd z hz with q | ⟨i, m, k1, k2, k3, k4⟩
        · exact o3 z q
        · have hc : causeP l y z := ⟨i, m, k1, k2, k3, k4⟩
          rcases o3' y (by simp) with r | r
          · rw [← r]; exact .one hc
          · exact .step (o3 y r) hc
      · rcases hT1 z hz with q | q
        · exact (o3' z (by simp [q])).imp_right fun r => hks z r
        · exact .inr q
      · rw [hmax]
        have := o4 c
        unfold updF
        split
        · omega
        · exact this
  · refine ⟨[], [], [x], [], fun _ => 0, by simp, by simp, by simp, ⟨by simpa using Sl.nil, List.Pairwise.nil, by simp, by simp, ?_, ?_, by simp, x04.next⟩, m1.e x4, x04, by simp, by simp, fun j m _ h => by simp at h; omega, fun z hz => .inl (by simpa using hz), by simp, by simp, fun c => by simp⟩
    · have := ((g1.back x1.next).e x3).e x4
      simpa using this
    · have e : knF [] = fun _ => 0 := by funext z; simp [knF]
      rw [e]; exact m2
  · rintro ⟨ex, t⟩ g ⟨rfl, xg, L, sl, rise, mem, len⟩
    simp [J_trace_Causes_0]
    exact Tells.ok (hQ _ _ ⟨L, by simpa using sl, rise, mem, len, xg⟩)
end
end Go.Proofs.Ytochkdifpgelmaa

/-! Plain laws of what trace tells: who agrees, what was once. -/
namespace Go.Proofs.Ytochkdifpgelmaa
open Go.Ab

abbrev Ids := List (Int × Int)
theorem posF_in {a : Ids} {x : Int × Int} (h : x ∈ a) : posF a x = (idxK a x : Nat) + 1 := if_pos h
theorem posF_out {a : Ids} {x : Int × Int} (h : x ∉ a) : posF a x = 0 := if_neg h
theorem idxK_inj {a : Ids} {x y : Int × Int} (hx : x ∈ a) (hy : y ∈ a) (h : idxK a x = idxK a y) : x = y := by
  have h1 := idx_at hx
  have h2 := idx_at hy
  rw [h, h2] at h1
  exact (Option.some.inj h1).symm

theorem agr_iff (a : Ids) : ∀ (b : Ids) (last : Int), 0 ≤ last → (agr a last b = true ↔ (∀ y, y ∈ b → y ∈ a → last ≤ posF a y) ∧ b.Pairwise fun x y => x ∈ a → y ∈ a → posF a x ≤ posF a y)
  | [], last, _ => by simp [agr]
  | x :: r, last, h0 => by
    have hp := posF_le a x
    have ih := agr_iff a r (max last (posF a x)) (by omega)
    simp only [agr, Bool.and_eq_true, ih, List.pairwise_cons, List.mem_cons]
    constructor
    · rintro ⟨h1, h2, h3⟩
      refine ⟨fun y hy hya => ?_, fun y hy hxa hya => ?_, h3⟩
      · rcases hy with q | q
        · subst q
          have := posF_in hya
          simp at h1
          omega
        · have := h2 y q hya; omega
      · have := h2 y hy hya; omega
    · rintro ⟨h1, h2, h3⟩
      refine ⟨?_, fun y hy hya => ?_, h3⟩
      · simp
        by_cases hx : x ∈ a
        · exact .inr (h1 x (.inl rfl) hx)
        · left; rw [posF_out hx]; omega
      · have k1 := h1 y (.inr hy) hya
        by_cases hx : x ∈ a
        · have := h2 y hy hx hya; omega
        · rw [posF_out hx]; omega

/-- What is in both stands in one order. -/
def same2 (a b : Ids) : Prop := ∀ x y, x ∈ a → y ∈ a → x ∈ b → y ∈ b → idxK b x < idxK b y → idxK a x < idxK a y
theorem same2.symm {a b : Ids} (h : same2 a b) : same2 b a := fun x y hx hy hx' hy' hlt => by
  rcases Nat.lt_trichotomy (idxK b x) (idxK b y) with q | q | q
  · exact q
  · have := idxK_inj hx hy q
    subst this; omega
  · have := h y x hy' hx' hy hx q
    omega
theorem pairwise_idx {α : Type} [DecidableEq α] {R : α → α → Prop} : ∀ {l : List α}, l.Nodup → (l.Pairwise R ↔ ∀ (i j : Nat) (x y : α), i < j → l[i]? = some x → l[j]? = some y → R x y)
  | [], _ => by simp
  | a :: l, hn => by
    obtain ⟨h1, h2⟩ := List.nodup_cons.1 hn
    rw [List.pairwise_cons, pairwise_idx h2]
    constructor
    · rintro ⟨k1, k2⟩ i j x y hij hx hy
      cases i with
      | zero =>
        simp at hx; subst hx
        cases j with
        | zero => omega
        | succ j => exact k1 y (List.mem_of_getElem? (by simpa using hy))
      | succ i =>
        cases j with
        | zero => omega
        | succ j => exact k2 i j x y (by omega) (by simpa using hx) (by simpa using hy)
    · intro k
      refine ⟨fun y hy => ?_, fun i j x y hij hx hy => k (i + 1) (j + 1) x y (by omega) (by simpa using hx) (by simpa using hy)⟩
      obtain ⟨j, hj⟩ := List.mem_iff_getElem?.1 hy
      exact k 0 (j + 1) a y (by omega) rfl (by simpa using hj)
theorem agr_same {a b : Ids} (hb : b.Nodup) : agr a 0 b = true ↔ same2 a b := by
  rw [agr_iff a b 0 (by omega), pairwise_idx hb]
  constructor
  · rintro ⟨_, h⟩ x y hx hy hx' hy' hlt
    have := h _ _ x y hlt (idx_at hx') (idx_at hy') hx hy
    rw [posF_in hx, posF_in hy] at this
    rcases Nat.lt_or_ge (idxK a x) (idxK a y) with q | q
    · exact q
    · have e : idxK a x = idxK a y := by omega
      have := idxK_inj hx hy e
      subst this; omega
  · intro h
    refine ⟨fun y _ _ => (posF_le a y).1, fun i j x y hij hx hy hxa hya => ?_⟩
    have ex := idxK_of hb hx
    have ey := idxK_of hb hy
    have := h x y hxa hya (List.mem_of_getElem? hx) (List.mem_of_getElem? hy) (by omega)
    rw [posF_in hxa, posF_in hya]; omega

theorem agreeG_iff : ∀ (r p : List Ids), agreeG p r = true ↔ (∀ b, b ∈ p → ∀ a, a ∈ r → agr a 0 b = true) ∧ r.Pairwise fun b a => agr a 0 b = true
  | [], p => by simp [agreeG]
  | a :: r, p => by
    have ih := agreeG_iff r (p ++ [a])
    simp only [agreeG_at, Bool.and_eq_true, ih, List.all_eq_true, List.pairwise_cons, List.mem_append, List.mem_cons]
    constructor
    · rintro ⟨h1, h2, h3⟩
      refine ⟨fun b hb c hc => ?_, fun c hc => h2 a (.inr (.inl rfl)) c hc, h3⟩
      rcases hc with q | q
      · subst q; exact h1 b hb
      · exact h2 b (.inl hb) c q
    · rintro ⟨h1, h2, h3⟩
      refine ⟨fun b hb => h1 b hb a (.inl rfl), fun b hb c hc => ?_, h3⟩
      rcases hb with q | q | q
      · exact h1 b q c (.inr hc)
      · subst q; exact h2 c hc
      · simp at q
/-- Of no two clients the orders are unlike. -/
def agreeS (f : Int → Ids) : Prop := ∀ c d, same2 (f c) (f d)
theorem agreeR_iff (l : List Mk) : agreeR (rowsF l) = true ↔ agreeS (firF l) := by
  have hn : ∀ c, (firF l c).Nodup := fun c => nodup_ddF _
  unfold agreeR
  rw [agreeG_iff]
  unfold rowsF
  rw [List.pairwise_map]
  have hcn : (cliF l).Nodup := nodup_ddF _
  rw [pairwise_idx hcn]
  constructor
  · rintro ⟨_, h⟩ c d
    by_cases hc : c ∈ cliF l
    · by_cases hd : d ∈ cliF l
      · rcases Nat.lt_trichotomy (idxK (cliF l) c) (idxK (cliF l) d) with q | q | q
        · exact ((agr_same (hn c)).1 (h _ _ c d q (idx_at hc) (idx_at hd))).symm
        · have h1 := idx_at hc
          have h2 := idx_at hd
          rw [q, h2] at h1
          cases h1
          intro x y _ _ _ _ hlt; exact hlt
        · exact (agr_same (hn d)).1 (h _ _ d c q (idx_at hd) (idx_at hc))
      · intro x y _ _ hx; rw [firF_nil hd] at hx; simp at hx
    · intro x y hx; rw [firF_nil hc] at hx; simp at hx
  · intro h
    exact ⟨by simp, fun i j c d _ _ _ => (agr_same (hn c)).2 (h d c)⟩

/-! ### beginnings, and with one client less -/

theorem ddF_prefix {α : Type} [DecidableEq α] (l m : List α) : ∃ r, ddF (l ++ m) = ddF l ++ r := by
  induction m using list_end with
  | h0 => exact ⟨[], by simp⟩
  | h1 m x ih =>
    obtain ⟨r, hr⟩ := ih
    rw [← List.append_assoc, ddF_app, hr]
    unfold insK
    split
    · exact ⟨r, rfl⟩
    · exact ⟨r ++ [x], by rw [List.append_assoc]⟩
theorem firF_prefix (l m : List Mk) (c : Int) : ∃ r, firF (l ++ m) c = firF l c ++ r := by
  unfold firF
  rw [heardL_app]
  exact ddF_prefix _ _
theorem agreeS_take {l : List Mk} (h : agreeS (firF l)) (k : Nat) : agreeS (firF (l.take k)) := fun c d x y hx hy hx' hy' hlt => by
  have e : l = l.take k ++ l.drop k := (List.take_append_drop _ _).symm
  obtain ⟨r, hr⟩ := firF_prefix (l.take k) (l.drop k) c
  obtain ⟨s, hs⟩ := firF_prefix (l.take k) (l.drop k) d
  rw [← e] at hr hs
  have := h c d x y (by rw [hr]; simp [hx]) (by rw [hr]; simp [hy]) (by rw [hs]; simp [hx']) (by rw [hs]; simp [hy']) (by rw [hs, idxK_old hx', idxK_old hy']; exact hlt)
  rw [hr, idxK_old hx, idxK_old hy] at this
  exact this
/-- Without what one client heard. -/
def lessW (who : Int) (m : Mk) : Bool := m.sent || m.c != who
theorem heardL_less (l : List Mk) (who c : Int) : heardL (l.filter (lessW who)) c = if c = who then [] else heardL l c := by
  unfold heardL
  rw [List.filter_filter]
  split
  · rename_i h
    subst h
    rw [List.map_eq_nil_iff, List.filter_eq_nil_iff]
    intro m _ q
    simp [heardBy, lessW] at q
    rcases q.2 with z | z
    · rw [z] at q; simp at q
    · exact z q.1.2
  · rename_i h
    congr 1
    apply List.filter_congr
    intro m _
    simp only [heardBy, lessW]
    cases m.sent with
    | true => simp
    | false =>
      by_cases hc : m.c = c
      · subst hc; simp [h]
      · simp [hc]
theorem firF_less (l : List Mk) (who c : Int) : firF (l.filter (lessW who)) c = if c = who then [] else firF l c := by
  unfold firF
  rw [heardL_less]
  split <;> simp [ddF]
theorem agreeS_less {l : List Mk} (h : agreeS (firF l)) (who : Int) : agreeS (firF (l.filter (lessW who))) := fun c d x y hx hy hx' hy' hlt => by
  rw [firF_less] at *
  split at hx
  · simp at hx
  · split at hx'
    · simp at hx'
    · rename_i h1 h2
      rw [if_neg h1] at *
      rw [if_neg h2] at *
      exact h c d x y hx hy hx' hy' hlt

theorem onceG_take : ∀ (l p : List Mk) (k : Nat), onceG p l = true → onceG p (l.take k) = true
  | [], p, k, h => by simpa using h
  | m :: r, p, 0, _ => by simp [onceG]
  | m :: r, p, k + 1, h => by
    simp only [onceG, Bool.and_eq_true, List.take_succ_cons] at h ⊢
    exact ⟨h.1, onceG_take r _ k h.2⟩
theorem okM_less {p : List Mk} {m : Mk} {who : Int} (h : okM p m = true) : okM (p.filter (lessW who)) m = true := by
  have hs : sentC (p.filter (lessW who)) = sentC p := by
    funext x
    unfold sentC
    rw [List.filter_filter]
    congr 2
    apply List.filter_congr
    intro k _
    cases hk : k.sent <;> simp [lessW, hk]
  have hh : heardC (p.filter (lessW who)) m ≤ heardC p m := by
    unfold heardC
    rw [List.filter_filter]
    have : (List.filter (fun a => (!a.sent && decide (a = m)) && lessW who a) p).length ≤ (List.filter (fun k => !k.sent && decide (k = m)) p).length := by
      rw [← List.filter_filter]
      rw [show List.filter (fun a => !a.sent && decide (a = m)) (List.filter (fun a => lessW who a) p) = List.filter (fun a => lessW who a) (List.filter (fun a => !a.sent && decide (a = m)) p) from by
        rw [List.filter_filter, List.filter_filter]; congr 1; funext a; rw [Bool.and_comm]]
      exact List.length_filter_le _ _
    omega
  have h0 := (heardC_le (p.filter (lessW who)) m).1
  unfold okM at h ⊢
  rw [hs]
  split
  · rename_i k; rw [if_pos k] at h; exact h
  · rename_i k
    rw [if_neg k] at h
    simp at h ⊢
    exact ⟨by omega, h.2⟩
theorem onceG_less (who : Int) : ∀ (l p : List Mk), onceG p l = true → onceG (p.filter (lessW who)) (l.filter (lessW who)) = true
  | [], p, _ => by simp [onceG]
  | m :: r, p, h => by
    simp only [onceG, Bool.and_eq_true] at h
    have ih := onceG_less who r (p ++ [m]) h.2
    by_cases hm : lessW who m = true
    · rw [List.filter_cons_of_pos hm]
      simp only [onceG, Bool.and_eq_true]
      refine ⟨okM_less h.1, ?_⟩
      rw [List.filter_append] at ih
      simpa [List.filter, hm] using ih
    · rw [List.filter_cons_of_neg hm]
      rw [List.filter_append] at ih
      simpa [List.filter, hm] using ih
end Go.Proofs.Ytochkdifpgelmaa

/-! What law 25's at tells; TraceCauses' loops. -/
namespace Go.Proofs.Ytochkdifpgelmaa
open Go.Ab

theorem idxK_first {α : Type} [DecidableEq α] {l : List α} {i : Nat} {x : α} (h : l[i]? = some x) (hn : x ∉ l.take i) : idxK l x = i := by
  have hi := (List.getElem?_eq_some_iff.1 h).1
  have e : l = l.take i ++ l.drop i := (List.take_append_drop _ _).symm
  unfold idxK
  rw [e, List.idxOf_append, if_neg hn]
  have hd : l.drop i = x :: l.drop (i + 1) := by
    rw [List.drop_eq_getElem_cons hi]
    rw [List.getElem?_eq_getElem hi] at h
    cases h; rfl
  rw [hd]
  simp; omega
theorem posF_take {l : Ids} {i : Nat} {x : Int × Int} (h : l[i]? = some x) (hn : x ∉ l.take i) : posF l x = i + 1 := by
  rw [posF_in (List.mem_of_getElem? h), idxK_first h hn]

section
variable {X : XTab}
theorem law_at (hX : OnlyKnown X) {h : Heap} {v : AVal} {l : Ids} (o : Sl idR h v l) (hl : l.length ≤ 1000) (y : Int × Int) : Tells (fun q => acallX Try.prog X q F_precentorlaw25_at [v, .agg (idC y)] h) fun r h' => r = I (posF l y - 1) ∧ Ext [] h h' := by
  refine R_precentorlaw25_at _ _ (hX _ _ rfl) ?_
  refine Tells.prot fun Q' hQ => ?_
  unfold S_precentorlaw25_at
  simp
  refine Tells.box (cs := idC y) (by rfl) (by rfl) fun h1 bx ox x1 lx => ?_
  have oxe := ox.1
  simp only [idC] at oxe
  try simp
  refine Tells.bind (Tells.loop (fun n t g => ∃ i : Nat, t 0 = v ∧ t 3 = .ptr bx 0 ∧ t 5 = I i ∧ i + n = l.length ∧ g = h1 ∧ y ∉ l.take i)
    (Q := fun p g => g = h1 ∧ ((p.1 = .exit 0 ∧ posF l y = 0) ∨ (p.1 = .ret ∧ p.2 4 = I (posF l y - 1)))) ?_ l.length _ _ ?_) ?_
  · rintro n t g ⟨i, t0, t3, t5, hi, rfl, hno⟩
    refine Tells.prot fun Q2 hQ2 => ?_
    unfold L_precentorlaw25_at_1
    simp [t5, t0, (o.ext x1).len]
    refine Tells.cb (fun hc => ?_) (fun hc => ?_)
    · simp at hc
      obtain ⟨k, hk⟩ : ∃ k, l[i]? = some k := ⟨_, List.getElem?_eq_getElem hc⟩
      obtain ⟨b, p, B, q1, q2, q3, q4, q5, q6, q7⟩ := id_at (o.ext x1) hk
      have htk : l.take (i + 1) = l.take i ++ [k] := by rw [List.take_add_one, hk]; rfl
      have w : IntKind.i64.wrap ((i : Int) + 1) = i + 1 := wrap_id (by omega) (by omega)
      simp [J_precentorlaw25_at_2, t5, t0, t3, q1, q2, q3, q4, oxe, aBin_eql2 two30]
      by_cases hq : k = y
      · subst hq
        simp [t5]
        refine Tells.ok (hQ2 _ _ (.inr ⟨by simp, rfl, .inr ⟨rfl, ?_⟩⟩))
        rw [posF_take hk hno]
        simp
      · have hne : ¬ (k.1 = y.1 ∧ k.2 = y.2) := fun z => hq (Prod.ext z.1 z.2)
        have hne' : (k.1 == y.1 && k.2 == y.2) = false := by
          cases hb : (k.1 == y.1 && k.2 == y.2) with
          | false => rfl
          | true => simp at hb; exact absurd hb hne
        simp [hne, hne', J_precentorlaw25_at_3, t5, w]
        refine Tells.ok (hQ2 _ _ (.inl ⟨rfl, n - 1, by omega, i + 1, by simp [t0], by simp [t3], by simp, by omega, rfl, fun hz => ?_⟩))
        rw [htk] at hz
        rcases List.mem_append.1 hz with q | q
        · exact hno q
        · simp at q; exact hq q.symm
    · simp at hc
      rw [List.take_of_length_le (by omega)] at hno
      exact Tells.ok (hQ2 _ _ (.inr ⟨by simp, rfl, .inl ⟨rfl, posF_out hno⟩⟩))
  · exact ⟨0, by simp, by simp, by simp, by omega, rfl, by simp⟩
  · rintro ⟨ex, t⟩ g ⟨rfl, ⟨rfl, ho⟩ | ⟨rfl, t4⟩⟩
    · simp [J_precentorlaw25_at_0]
      exact Tells.ok (hQ _ _ ⟨by rw [ho]; rfl, x1⟩)
    · simp
      exact Tells.ok (hQ _ _ ⟨t4, x1⟩)

/-- Was it sent ahead of that? -/
def sentB (m : List Mk) (i : Nat) (k0 : Mk) : Prop := ∃ j k, j < i ∧ m[j]? = some k ∧ k.sent = true ∧ k.c = k0.c ∧ k.s = k0.s
theorem tc_first {g : Heap} {v : AVal} {m : List Mk} {i : Nat} {k0 : Mk} {t : T} (o : Sl mkR g v m) (hl : m.length ≤ 100) (hi : m[i]? = some k0) (t3 : t 3 = v) (t4 : t 4 = I i) (t6 : t 6 = I i) (t7 : t 7 = I 0) :
    Tells (fun q => loopN (L_precentorlaw25_TraceCauses_19 Try.prog (acallX Try.prog X q) q) q t g) fun z g' => z.1 = .exit 2 ∧ g' = g ∧ ((z.2 6 = I i ∧ ¬ sentB m i k0) ∨ (z.2 6 = I (-1) ∧ sentB m i k0)) ∧ ∀ j, j ≤ 5 → z.2 j = t j := by
  have hil := (List.getElem?_eq_some_iff.1 hi).1
  obtain ⟨b0, p0, B0, r1, r2, r3, r4, r5, r6, r7, r8, r9⟩ := mk_at o hi
  refine Tells.loop (fun n t' g' => ∃ j : Nat, t' 7 = I j ∧ j + n = i ∧ g' = g ∧ ((t' 6 = I i ∧ ¬ sentB m j k0) ∨ (t' 6 = I (-1) ∧ sentB m j k0)) ∧ ∀ j, j ≤ 5 → t' j = t j) ?_ i _ _ ?_
  · rintro n u g1 ⟨j, u7, hj, rfl, hs, fr⟩
    have u3 : u 3 = v := (fr 3 (by decide)).trans t3
    have u4 : u 4 = I i := (fr 4 (by decide)).trans t4
    refine Tells.prot fun Q2 hQ2 => ?_
    unfold L_precentorlaw25_TraceCauses_19
    simp [u7, u4]
    refine Tells.cb (fun hc => ?_) (fun hc => ?_)
    · simp at hc
      obtain ⟨k, hk⟩ : ∃ k, m[j]? = some k := ⟨_, List.getElem?_eq_getElem (by omega)⟩
      obtain ⟨b, p, B, q1, q2, q3, q4, q5, q6, q7, q8, q9⟩ := mk_at o hk
      have w : IntKind.i64.wrap ((j : Int) + 1) = j + 1 := wrap_id (by omega) (by omega)
      have nx : ∀ (u' : T), (∀ z, z ≤ 5 → u' z = u z) → ∀ z, z ≤ 5 → u' z = t z := fun u' h z hz => (h z hz).trans (fr z hz)
      have old : sentB m j k0 → sentB m (j + 1) k0 := fun ⟨a, b, h1, h2⟩ => ⟨a, b, by omega, h2⟩
      have skip : ¬ (k.sent = true ∧ k.c = k0.c ∧ k.s = k0.s) → ((u 6 = I i ∧ ¬ sentB m (j + 1) k0) ∨ (u 6 = I (-1) ∧ sentB m (j + 1) k0)) := fun hno => by
        rcases hs with ⟨h1, h2⟩ | ⟨h1, h2⟩
        · refine .inl ⟨h1, fun ⟨a, b, c1, c2, c3⟩ => ?_⟩
          by_cases hq : a = j
          · subst hq; rw [hk] at c2; cases c2; exact hno c3
          · exact h2 ⟨a, b, by omega, c2, c3⟩
        · exact .inr ⟨h1, old h2⟩
      simp [J_precentorlaw25_TraceCauses_20, u7, u3, q1, q2, q6]
      by_cases hsent : k.sent = true
      · by_cases hcc : k.c = k0.c
        · by_cases hss : k.s = k0.s
          · simp [hsent, hcc, hss, u7, u3, u4, q1, q2, q7, q9, r1, r2, r7, r9, J_precentorlaw25_TraceCauses_21, w]
            refine Tells.ok (hQ2 _ _ (.inl ⟨rfl, n - 1, by omega, j + 1, by simp, by omega, rfl, .inr ⟨by simp, ⟨j, k, by omega, hk, hsent, hcc, hss⟩⟩, nx _ fun z hz => ?_⟩))
            simp only [upd]
            repeat rw [if_neg (by omega)]
          · have e : (k.s == k0.s) = false := by simpa using hss
            simp [hsent, hcc, hss, e, u7, u3, u4, q1, q2, q7, q9, r1, r2, r7, r9, J_precentorlaw25_TraceCauses_21, w]
            refine Tells.ok (hQ2 _ _ (.inl ⟨rfl, n - 1, by omega, j + 1, by simp, by omega, rfl, by simpa using skip (fun q => hss q.2.2), nx _ fun z hz => ?_⟩))
            simp only [upd]
            repeat rw [if_neg (by omega)]
        · have e : (k.c == k0.c) = false := by simpa using hcc
          simp [hsent, hcc, e, u7, u3, u4, q1, q2, q7, r1, r2, r7, J_precentorlaw25_TraceCauses_21, w]
          refine Tells.ok (hQ2 _ _ (.inl ⟨rfl, n - 1, by omega, j + 1, by simp, by omega, rfl, by simpa using skip (fun q => hcc q.2.1), nx _ fun z hz => ?_⟩))
          simp only [upd]
          repeat rw [if_neg (by omega)]
      · have e : k.sent = false := by simpa using hsent
        simp [e, J_precentorlaw25_TraceCauses_21, u7, w]
        refine Tells.ok (hQ2 _ _ (.inl ⟨rfl, n - 1, by omega, j + 1, by simp, by omega, rfl, by simpa using skip (fun q => hsent q.1), nx _ fun z hz => ?_⟩))
        simp only [upd]
        repeat rw [if_neg (by omega)]
    · simp at hc
      have : j = i := by omega
      subst this
      refine Tells.ok (hQ2 _ _ (.inr ⟨by simp, rfl, rfl, by simpa using hs, fun z hz => ?_⟩))
      simp only [upd]
      repeat rw [if_neg (by omega)]
      exact fr z hz
  · exact ⟨0, t7, by omega, rfl, .inl ⟨t6, fun ⟨a, b, h, _⟩ => by omega⟩, fun _ _ => rfl⟩

/-- What its client saw ahead of it is among its causes. -/
theorem tc_seen (hX : OnlyKnown X) {g : Heap} {v cv : AVal} {m : List Mk} {i : Nat} {k0 : Mk} {L : Ids} {t : T} (o : Sl mkR g v m) (hl : m.length ≤ 100) (hi : m[i]? = some k0) (oL : Sl idR g cv L) (hL : L.length ≤ 100) (hin : ∀ (j : Nat) (k : Mk), m[j]? = some k → j < i → k.c = k0.c → mid k ∈ L)
    (t3 : t 3 = v) (t4 : t 4 = I i) (t8 : t 8 = cv) (t9 : t 9 = I 0) : Tells (fun q => loopN (L_precentorlaw25_TraceCauses_15 Try.prog (acallX Try.prog X q) q) q t g) fun z g' => z.1 = .exit 4 ∧ Ext [] g g' ∧ ∀ j, j ≤ 8 → z.2 j = t j := by
  have hil := (List.getElem?_eq_some_iff.1 hi).1
  refine Tells.loop (fun n t' g' => ∃ j : Nat, t' 9 = I j ∧ j + n = i ∧ Ext [] g g' ∧ ∀ j, j ≤ 8 → t' j = t j) ?_ i _ _ ?_
  · rintro n u g1 ⟨j, u9, hj, x, fr⟩
    have u3 : u 3 = v := (fr 3 (by decide)).trans t3
    have u4 : u 4 = I i := (fr 4 (by decide)).trans t4
    have u8 : u 8 = cv := (fr 8 (by decide)).trans t8
    refine Tells.prot fun Q2 hQ2 => ?_
    unfold L_precentorlaw25_TraceCauses_15
    simp [u9, u4]
    refine Tells.cb (fun hc => ?_) (fun hc => ?_)
    · simp at hc
      obtain ⟨k, hk⟩ : ∃ k, m[j]? = some k := ⟨_, List.getElem?_eq_getElem (by omega)⟩
      obtain ⟨b, p, B, q1, q2, q3, q4, q5, q6, q7, q8, q9⟩ := mk_at (o.ext x) hk
      have w : IntKind.i64.wrap ((j : Int) + 1) = j + 1 := wrap_id (by omega) (by omega)
      simp [J_precentorlaw25_TraceCauses_16, u9, u3, q1, q2, q8, q9, bldR, fillR, splice]
      refine Tells.newV fun g2 yb oy y2 ly => ?_
      refine Tells.stNE oy (ds := [I k.f, I k.s]) (by rfl) (by rfl) (by rfl) (by rfl) fun g3 oy3 y3 => ?_
      have x3 := x.then (y2.then y3 (S := []) (by simp; omega)) (by simp)
      obtain ⟨b', p', B', r1, r2, r3, r4, r5, r6, r7, r8, r9⟩ := mk_at (o.ext x3) hk
      obtain ⟨b0, p0, B0, s1, s2, s3, s4, s5, s6, s7, s8, s9⟩ := mk_at (o.ext x3) hi
      cases q1.symm.trans r1
      -- what comes of it
      have fin : ∀ (g4 : Heap) (t' : T), Ext [] g g4 → Ob g4 yb (idC (mid k)) → t' 3 = v → t' 4 = I i → t' 8 = cv → t' 9 = I j → t' 10 = .ptr yb 0 → (∀ z, z ≤ 8 → t' z = t z) → Tells (fun z => J_precentorlaw25_TraceCauses_18 Try.prog (acallX Try.prog X z) z (blkK 5 (sqK (J_precentorlaw25_TraceCauses_17 Try.prog (acallX Try.prog X z) z okK) okK)) t' g4) Q2 := by
        intro g4 t' x4 oy4 e3 e4 e8 e9 e10 fr'
        obtain ⟨b', p', B', r1, r2, r3, r4, r5, r6, r7, r8, r9⟩ := mk_at (o.ext x4) hk
        obtain ⟨b0, p0, B0, s1, s2, s3, s4, s5, s6, s7, s8, s9⟩ := mk_at (o.ext x4) hi
        have oye := oy4.1
        simp only [idC] at oye
        unfold J_precentorlaw25_TraceCauses_18
        simp [e3, e9, e4, r1, r2, r7, s1, s2, s7]
        by_cases hcc : k.c = k0.c
        · simp [hcc, e8, e10, oye]
          have hat : Tells (fun q => acallX Try.prog X q F_precentorlaw25_at [cv, .agg [I (mid k).1, I (mid k).2]] g4) _ := law_at hX (oL.ext x4) (by omega) (mid k)
          refine Tells.cbE hat ?_
          rintro _ g5 ⟨rfl, x5⟩
          have hpos := posF_in (hin j k hk hc hcc)
          have hge : ¬ posF L (mid k) - 1 < 0 := by rw [hpos]; omega
          simp [hge, J_precentorlaw25_TraceCauses_17, e9, w]
          refine Tells.ok (hQ2 _ _ (.inl ⟨rfl, n - 1, by omega, j + 1, by simp, by omega, x4.trans x5, fun z hz => ?_⟩))
          simp only [upd]
          repeat rw [if_neg (by omega)]
          exact fr' z hz
        · have e : (k.c == k0.c) = false := by simpa using hcc
          simp [hcc, e, J_precentorlaw25_TraceCauses_17, e9, w]
          refine Tells.ok (hQ2 _ _ (.inl ⟨rfl, n - 1, by omega, j + 1, by simp, by omega, x4, fun z hz => ?_⟩))
          simp only [upd]
          repeat rw [if_neg (by omega)]
          exact fr' z hz
      simp [u9, u3, r1, r2, r6]
      by_cases hsent : k.sent = true
      · simp [hsent, u9, u3, r1, r2, r7]
        refine Tells.st1 oy3 (by rfl) (by rfl) (by simp) fun g4 oy4 y4 => ?_
        have x4 : Ext [] g g4 := x3.then y4 (by simp; have := x.next; omega)
        refine fin g4 _ x4 ?_ (by simp [u3]) (by simp [u4]) (by simp [u8]) (by simp [u9]) (by simp) fun z hz => ?_
        · have : idC (mid k) = [I k.f, I k.s].set 0 (I k.c) := by simp [idC, mid, hsent]
          rw [this]; exact oy4
        · simp only [upd]
          repeat rw [if_neg (by omega)]
          exact fr z hz
      · have e : k.sent = false := by simpa using hsent
        simp [e]
        refine fin g3 _ x3 ?_ (by simp [u3]) (by simp [u4]) (by simp [u8]) (by simp [u9]) (by simp) fun z hz => ?_
        · have : idC (mid k) = [I k.f, I k.s] := by simp [idC, mid, e]
          rw [this]; exact oy3
        · simp only [upd]
          repeat rw [if_neg (by omega)]
          exact fr z hz
    · simp at hc
      refine Tells.ok (hQ2 _ _ (.inr ⟨by simp, rfl, x, fun z hz => ?_⟩))
      simp only [upd]
      repeat rw [if_neg (by omega)]
      exact fr z hz
  · exact ⟨0, t9, by omega, .refl, fun _ _ => rfl⟩

/-- Causes of a cause are causes. -/
theorem tc_all (hX : OnlyKnown X) {g : Heap} {cv dv : AVal} {L D : Ids} {t : T} (oL : Sl idR g cv L) (hL : L.length ≤ 100) (oD : Sl idR g dv D) (hD : D.length ≤ 100) (hin : ∀ z, z ∈ D → z ∈ L) (t8 : t 8 = cv) (t12 : t 12 = dv) (t13 : t 13 = I 0) :
    Tells (fun q => loopN (L_precentorlaw25_TraceCauses_12 Try.prog (acallX Try.prog X q) q) q t g) fun z g' => z.1 = .exit 8 ∧ Ext [] g g' ∧ ∀ j, j ≤ 12 → z.2 j = t j := by
  refine Tells.loop (fun n t' g' => ∃ j : Nat, t' 13 = I j ∧ j + n = D.length ∧ Ext [] g g' ∧ ∀ j, j ≤ 12 → t' j = t j) ?_ D.length _ _ ?_
  · rintro n u g1 ⟨j, u13, hj, x, fr⟩
    have u8 : u 8 = cv := (fr 8 (by decide)).trans t8
    have u12 : u 12 = dv := (fr 12 (by decide)).trans t12
    refine Tells.prot fun Q2 hQ2 => ?_
    unfold L_precentorlaw25_TraceCauses_12
    simp [u13, u12, (oD.ext x).len]
    refine Tells.cb (fun hc => ?_) (fun hc => ?_)
    · simp at hc
      obtain ⟨z, hz⟩ : ∃ z, D[j]? = some z := ⟨_, List.getElem?_eq_getElem hc⟩
      obtain ⟨b, p, B, q1, q2, q3, q4, q5, q6, q7⟩ := id_at (oD.ext x) hz
      have w : IntKind.i64.wrap ((j : Int) + 1) = j + 1 := wrap_id (by omega) (by omega)
      simp [J_precentorlaw25_TraceCauses_13, u13, u12, u8, q1, q2, q3, q4]
      have hat : Tells (fun q => acallX Try.prog X q F_precentorlaw25_at [cv, .agg [I z.1, I z.2]] g1) _ := law_at hX (oL.ext x) (by omega) z
      refine Tells.bind hat ?_
      rintro _ g2 ⟨rfl, x2⟩
      have hpos := posF_in (hin z (List.mem_of_getElem? hz))
      have hge : ¬ posF L z - 1 < 0 := by rw [hpos]; omega
      simp [hge, J_precentorlaw25_TraceCauses_14, u13, w]
      refine Tells.ok (hQ2 _ _ (.inl ⟨rfl, n - 1, by omega, j + 1, by simp, by omega, x.trans x2, fun z hz => ?_⟩))
      simp only [upd]
      repeat rw [if_neg (by omega)]
      exact fr z hz
    · simp at hc
      refine Tells.ok (hQ2 _ _ (.inr ⟨by simp, rfl, x, fun z hz => ?_⟩))
      simp only [upd]
      repeat rw [if_neg (by omega)]
      exact fr z hz
  · exact ⟨0, t13, by omega, .refl, fun _ _ => rfl⟩
end
end Go.Proofs.Ytochkdifpgelmaa

/-! Plain laws of what trace tells: a line, or none. -/
namespace Go.Proofs.Ytochkdifpgelmaa
open Go.Ab

def cntB {α : Type} (p : α → Bool) (l : List α) : Nat := (l.filter p).length
theorem cntB_cons {α : Type} (p : α → Bool) (a : α) (l : List α) : cntB p (a :: l) = (if p a = true then 1 else 0) + cntB p l := by
  unfold cntB
  cases h : p a
  · rw [List.filter_cons_of_neg (by simp [h])]; simp
  · rw [List.filter_cons_of_pos h]; simp; omega
section
variable {α β : Type} {T : α → β → Prop} {p : α → Bool} {q : β → Bool}
theorem cnt_le (h : ∀ r a, T r a → q a = true → p r = true) : ∀ {R : List α} {A : List β}, All2 T R A → cntB q A ≤ cntB p R
  | [], [], _ => Nat.le_refl _
  | r :: R, a :: A, k => by
    have ih := cnt_le h k.2
    rw [cntB_cons, cntB_cons]
    have := h r a k.1
    split
    · rename_i hq; rw [if_pos (this hq)]; omega
    · split <;> omega
  | [], _ :: _, k => k.elim
  | _ :: _, [], k => k.elim
theorem cnt_eq (h : ∀ r a, T r a → q a = true → p r = true) : ∀ {R : List α} {A : List β}, All2 T R A → cntB q A = cntB p R → All2 (fun r a => T r a ∧ (p r = true → q a = true)) R A
  | [], [], _, _ => trivial
  | r :: R, a :: A, k, e => by
    have h1 := cnt_le h k.2
    have h2 := h r a k.1
    rw [cntB_cons, cntB_cons] at e
    by_cases hq : q a = true
    · rw [if_pos hq, if_pos (h2 hq)] at e
      exact ⟨⟨k.1, fun _ => hq⟩, cnt_eq h k.2 (by omega)⟩
    · rw [if_neg hq] at e
      by_cases hp : p r = true
      · rw [if_pos hp] at e; omega
      · rw [if_neg hp] at e
        exact ⟨⟨k.1, fun z => absurd z hp⟩, cnt_eq h k.2 (by omega)⟩
  | [], _ :: _, k, _ => k.elim
  | _ :: _, [], k, _ => k.elim
end
theorem occ_heads (x : Int × Int) : ∀ A : List Ids, occ (headsF A) x = (cntB (fun a => decide (a.head? = some x)) A : Nat)
  | [] => by simp [occ, headsF, cntB]
  | a :: A => by
    have ih := occ_heads x A
    rw [cntB_cons]
    unfold occ headsF at ih ⊢
    cases a with
    | nil =>
      rw [List.filterMap_cons_none rfl, if_neg (by simp), Nat.zero_add]
      exact ih
    | cons y r =>
      rw [show List.filterMap List.head? ((y :: r) :: A) = y :: List.filterMap List.head? A from rfl]
      by_cases hy : y = x
      · subst hy
        rw [List.filter_cons_of_pos (by simp), List.length_cons, if_pos (by simp)]
        omega
      · rw [List.filter_cons_of_neg (by simpa using hy), if_neg (by simpa using hy)]
        omega
theorem occ_nodup {x : Int × Int} : ∀ {a : Ids}, a.Nodup → occ a x = if x ∈ a then 1 else 0
  | [], _ => by simp [occ]
  | y :: r, h => by
    obtain ⟨h1, h2⟩ := List.nodup_cons.1 h
    have ih := occ_nodup (x := x) h2
    unfold occ at ih ⊢
    by_cases hy : y = x
    · subst hy
      rw [List.filter_cons_of_pos (by simp), if_pos (by simp)]
      rw [if_neg h1] at ih
      rw [List.length_cons]; omega
    · rw [List.filter_cons_of_neg (by simpa using hy), ih]
      have : x ≠ y := fun q => hy q.symm
      simp [this]
theorem occ_flat (x : Int × Int) : ∀ {R : List Ids}, (∀ a, a ∈ R → a.Nodup) → occ R.flatten x = (cntB (fun a => decide (x ∈ a)) R : Nat)
  | [], _ => by simp [occ, cntB]
  | a :: R, h => by
    have ih := occ_flat x (R := R) fun b hb => h b (by simp [hb])
    have ha := occ_nodup (x := x) (h a (by simp))
    rw [cntB_cons]
    unfold occ at ih ha ⊢
    rw [List.flatten_cons, List.filter_append, List.length_append]
    by_cases hx : x ∈ a
    · rw [if_pos hx] at ha; rw [if_pos (decide_eq_true hx)]; omega
    · rw [if_neg hx] at ha; rw [if_neg (by simpa using hx)]; omega

/-! ### who is next -/

theorem bestG_some {ok : Int × Int → Bool} {x : Int × Int} : ∀ {A : List Ids} {acc : Option (Int × Int)}, bestG ok acc A = some x → acc = some x ∨ (ok x = true ∧ ∃ a, a ∈ A ∧ a.head? = some x)
  | [], acc, h => .inl h
  | [] :: A, acc, h => by
    rcases bestG_some (A := A) (acc := acc) h with q | ⟨q1, a, q2, q3⟩
    · exact .inl q
    · exact .inr ⟨q1, a, by simp [q2], q3⟩
  | (y :: r) :: A, acc, h => by
    simp only [bestG] at h
    rcases bestG_some h with q | ⟨q1, a, q2, q3⟩
    · split at q
      · rename_i k; cases q; exact .inr ⟨k.1, _, List.mem_cons_self .., rfl⟩
      · exact .inl q
    · exact .inr ⟨q1, a, by simp [q2], q3⟩
/-- The least of those that may come. -/
theorem bestG_least {ok : Int × Int → Bool} : ∀ {A : List Ids} {acc : Option (Int × Int)}, match bestG ok acc A with
    | none => acc = none ∧ ∀ a x, a ∈ A → a.head? = some x → ok x = false
    | some y => (∀ z, acc = some z → z = y ∨ lt2 y z = true) ∧ ∀ a x, a ∈ A → a.head? = some x → ok x = true → x = y ∨ lt2 y x = true
  | [], acc => by
    cases acc with
    | none => exact ⟨rfl, fun a x h => by simp at h⟩
    | some z => exact ⟨fun w h => .inl (by cases h; rfl), fun a x h => by simp at h⟩
  | [] :: A, acc => by
    have ih := bestG_least (ok := ok) (A := A) (acc := acc)
    simp only [bestG]
    cases hb : bestG ok acc A with
    | none =>
      rw [hb] at ih
      refine ⟨ih.1, fun a x ha hx => ?_⟩
      rcases List.mem_cons.1 ha with q | q
      · subst q; simp at hx
      · exact ih.2 a x q hx
    | some y =>
      rw [hb] at ih
      refine ⟨ih.1, fun a x ha hx => ?_⟩
      rcases List.mem_cons.1 ha with q | q
      · subst q; simp at hx
      · exact ih.2 a x q hx
  | (z :: r) :: A, acc => by
    have ih := bestG_least (ok := ok) (A := A) (acc := if ok z = true ∧ less1 z acc = true then some z else acc)
    simp only [bestG]
    cases hb : bestG ok (if ok z = true ∧ less1 z acc = true then some z else acc) A with
    | none =>
      rw [hb] at ih
      obtain ⟨h1, h2⟩ := ih
      split at h1
      · cases h1
      · rename_i hk
        refine ⟨h1, fun a x ha hx => ?_⟩
        rcases List.mem_cons.1 ha with q | q
        · subst q
          simp at hx; subst hx
          cases ho : ok z with
          | false => rfl
          | true => exact absurd ⟨ho, by rw [h1]; rfl⟩ hk
        · exact h2 a x q hx
    | some y =>
      rw [hb] at ih
      obtain ⟨h1, h2⟩ := ih
      by_cases hk : ok z = true ∧ less1 z acc = true
      · rw [if_pos hk] at h1
        have hz := h1 z rfl
        refine ⟨fun w hw => ?_, fun a x ha hx ho => ?_⟩
        · have : lt2 z w = true := by have := hk.2; rw [hw] at this; exact this
          right
          rcases hz with q | q
          · rw [← q]; exact this
          · exact lt2_trans q this
        · rcases List.mem_cons.1 ha with q | q
          · subst q
            simp at hx; subst hx; exact hz
          · exact h2 a x q hx ho
      · rw [if_neg hk] at h1
        refine ⟨h1, fun a x ha hx ho => ?_⟩
        rcases List.mem_cons.1 ha with q | q
        · subst q
          simp at hx; subst hx
          -- it is not less than what was there
          cases hacc : acc with
          | none => exact absurd ⟨ho, by rw [hacc]; rfl⟩ hk
          | some w =>
            have hnl : lt2 z w = false := by
              cases hl : lt2 z w with
              | false => rfl
              | true => exact absurd ⟨ho, by rw [hacc]; exact hl⟩ hk
            have hw := h1 w hacc
            by_cases hzw : z = w
            · rw [hzw]; exact hw
            · have := lt2_total hnl hzw
              right
              rcases hw with q | q
              · rw [← q]; exact this
              · exact lt2_trans q this
        · exact h2 a x q hx ho

/-! ### what is left -/

structure LInv (R A : List Ids) (out : Ids) : Prop where
  rows : All2 (fun r a => ∃ p : Ids, r = p ++ a ∧ p.Sublist out ∧ ∀ z, z ∈ a → z ∉ out) R A
  nd : out.Nodup
  sub : ∀ z, z ∈ out → z ∈ R.flatten
theorem all2_mem {α β : Type} {T : α → β → Prop} : ∀ {R : List α} {A : List β}, All2 T R A → ∀ a, a ∈ A → ∃ r, r ∈ R ∧ T r a
  | [], [], _, a, h => by simp at h
  | r :: R, b :: A, k, a, h => by
    rcases List.mem_cons.1 h with q | q
    · subst q; exact ⟨r, by simp, k.1⟩
    · obtain ⟨s, h1, h2⟩ := all2_mem k.2 a q
      exact ⟨s, by simp [h1], h2⟩
  | [], _ :: _, k, _, _ => k.elim
  | _ :: _, [], k, _, _ => k.elim
theorem all2_mem' {α β : Type} {T : α → β → Prop} : ∀ {R : List α} {A : List β}, All2 T R A → ∀ r, r ∈ R → ∃ a, a ∈ A ∧ T r a
  | [], [], _, a, h => by simp at h
  | r :: R, b :: A, k, a, h => by
    rcases List.mem_cons.1 h with q | q
    · subst q; exact ⟨b, by simp, k.1⟩
    · obtain ⟨s, h1, h2⟩ := all2_mem' k.2 a q
      exact ⟨s, by simp [h1], h2⟩
  | [], _ :: _, k, _, _ => k.elim
  | _ :: _, [], k, _, _ => k.elim
theorem All2.imp' {α β : Type} {T U : α → β → Prop} : ∀ {R : List α} {A : List β}, All2 T R A → (∀ r a, r ∈ R → T r a → U r a) → All2 U R A
  | [], [], _, _ => trivial
  | r :: R, a :: A, k, h => ⟨h r a (by simp) k.1, All2.imp' k.2 fun s b hs => h s b (by simp [hs])⟩
  | [], _ :: _, k, _ => k.elim
  | _ :: _, [], k, _ => k.elim
theorem all2_map_r {α β γ : Type} {T : α → γ → Prop} (f : β → γ) : ∀ {R : List α} {A : List β}, All2 (fun r a => T r (f a)) R A → All2 T R (A.map f)
  | [], [], _ => trivial
  | _ :: _, _ :: _, k => ⟨k.1, all2_map_r f k.2⟩
  | [], _ :: _, k => k.elim
  | _ :: _, [], k => k.elim
theorem LInv.start {R : List Ids} : LInv R R [] := by
  refine ⟨?_, List.nodup_nil, by simp⟩
  induction R with
  | nil => trivial
  | cons a R ih => exact ⟨⟨[], rfl, List.nil_sublist _, by simp⟩, ih⟩
/-- Who may come next stands first wherever it is left. -/
theorem LInv.first {R A : List Ids} {out : Ids} (I : LInv R A out) (hn : ∀ a, a ∈ R → a.Nodup) {x : Int × Int} (hok : okF R.flatten A x = true) (hx : x ∉ out) : All2 (fun r a => (∃ p : Ids, r = p ++ a ∧ p.Sublist out ∧ ∀ z, z ∈ a → z ∉ out) ∧ (x ∈ a → a.head? = some x)) R A := by
  have e : cntB (fun a => decide (a.head? = some x)) A = cntB (fun a => decide (x ∈ a)) R := by
    have := of_decide_eq_true hok
    rw [occ_heads, occ_flat x hn] at this
    omega
  have k := cnt_eq (T := fun r a => ∃ p : Ids, r = p ++ a ∧ p.Sublist out ∧ ∀ z, z ∈ a → z ∉ out) (p := fun a => decide (x ∈ a)) (q := fun a => decide (a.head? = some x)) (fun r a ⟨p, h1, h2, h3⟩ hq => by
    have := List.mem_of_mem_head? (of_decide_eq_true hq)
    simp [h1, this]) I.rows e
  exact k.imp fun r a ⟨⟨p, h1, h2, h3⟩, h4⟩ => ⟨⟨p, h1, h2, h3⟩, fun hxa => of_decide_eq_true (h4 (by simp [h1, hxa]))⟩
theorem LInv.step {R A : List Ids} {out : Ids} (I : LInv R A out) (hn : ∀ a, a ∈ R → a.Nodup) {x : Int × Int} (hok : okF R.flatten A x = true) (ha : ∃ a, a ∈ A ∧ a.head? = some x) : x ∉ out ∧ LInv R (A.map (cutF x)) (out ++ [x]) := by
  obtain ⟨a0, ha0, hx0⟩ := ha
  obtain ⟨r0, hr0, p0, e0, s0, n0⟩ := all2_mem I.rows a0 ha0
  have hx : x ∉ out := n0 x (List.mem_of_mem_head? hx0)
  refine ⟨hx, ⟨all2_map_r _ ?_, ?_, ?_⟩⟩
  · refine All2.imp' (I.first hn hok hx) fun r a hr ⟨⟨p, h1, h2, h3⟩, h4⟩ => ?_
    cases a with
    | nil => exact ⟨p, h1, h2.trans (List.sublist_append_left _ _), by simp [cutF]⟩
    | cons y t =>
      by_cases hy : y = x
      · subst hy
        have hnr := hn r hr
        rw [h1] at hnr
        have hyt : y ∉ t := (List.nodup_cons.1 (List.nodup_append.1 hnr).2.1).1
        refine ⟨p ++ [y], by simp [cutF, h1], List.Sublist.append h2 (List.Sublist.refl _), fun z hz => ?_⟩
        simp [cutF] at hz
        simp only [List.mem_append, List.mem_singleton, not_or]
        exact ⟨h3 z (by simp [hz]), fun q => hyt (q ▸ hz)⟩
      · have hxy : x ∉ y :: t := fun q => by
          have := h4 q
          simp at this; exact hy this
        refine ⟨p, by simp [cutF, hy, h1], h2.trans (List.sublist_append_left _ _), fun z hz => ?_⟩
        simp [cutF, hy] at hz
        simp only [List.mem_append, List.mem_singleton, not_or]
        exact ⟨h3 z (by simpa using hz), fun q => hxy (by rw [← q]; simpa using hz)⟩
  · rw [List.nodup_append]
    exact ⟨I.nd, by simp, fun a ha b hb => by simp at hb; subst hb; exact fun q => hx (q ▸ ha)⟩
  · intro z hz
    rcases List.mem_append.1 hz with q | q
    · exact I.sub z q
    · simp at q
      rw [q, List.mem_flatten]
      exact ⟨r0, hr0, by rw [e0]; simp [List.mem_of_mem_head? hx0]⟩

theorem LInv.left {R A : List Ids} {out : Ids} (I : LInv R A out) {z : Int × Int} (hz : z ∈ R.flatten) (ho : z ∉ out) : ∃ a, a ∈ A ∧ z ∈ a := by
  obtain ⟨r, hr, hzr⟩ := List.mem_flatten.1 hz
  obtain ⟨a, ha, p, e, s, n⟩ := all2_mem' I.rows r hr
  rw [e] at hzr
  rcases List.mem_append.1 hzr with q | q
  · exact absurd (s.subset q) ho
  · exact ⟨a, ha, q⟩
theorem lineG_some {R : List Ids} (hn : ∀ a, a ∈ R → a.Nodup) {res : Ids} : ∀ (n : Nat) {A : List Ids} {out : Ids}, LInv R A out → out.length + n = (ddF R.flatten).length → lineG R.flatten n A out = some res → ∃ B, LInv R B res ∧ res.length = (ddF R.flatten).length
  | 0, A, out, I, hl, h => by
    simp only [lineG] at h
    cases h
    exact ⟨A, I, by omega⟩
  | n + 1, A, out, I, hl, h => by
    simp only [lineG] at h
    cases hb : bestG (okF R.flatten A) none A with
    | none => rw [hb] at h; cases h
    | some x =>
      rw [hb] at h
      rcases bestG_some hb with q | ⟨q1, q2⟩
      · cases q
      · obtain ⟨_, I2⟩ := I.step hn q1 q2
        exact lineG_some hn n I2 (by simp; omega) h
/-- A line has all, each once, and each row stands in it. -/
theorem lineF_some {R : List Ids} (hn : ∀ a, a ∈ R → a.Nodup) {res : Ids} (h : lineF R = some res) : res.Nodup ∧ (∀ z, z ∈ res ↔ z ∈ R.flatten) ∧ (∀ a, a ∈ R → a.Sublist res) ∧ res.length = (ddF R.flatten).length := by
  obtain ⟨B, I, hl⟩ := lineG_some hn _ LInv.start (by simp) h
  have hsub : ∀ z, z ∈ R.flatten → z ∈ res := fun z hz => by
    refine Classical.byContradiction fun ho => ?_
    have h1 : (z :: res).Nodup := List.nodup_cons.2 ⟨ho, I.nd⟩
    have h2 := nodup_sub_len (m := ddF R.flatten) h1 fun y hy => by
      rw [mem_ddF]
      rcases List.mem_cons.1 hy with q | q
      · rw [q]; exact hz
      · exact I.sub y q
    simp at h2; omega
  refine ⟨I.nd, fun z => ⟨I.sub z, hsub z⟩, fun a ha => ?_, hl⟩
  obtain ⟨b, hb, p, e, s, n⟩ := all2_mem' I.rows a ha
  have : b = [] := by
    cases b with
    | nil => rfl
    | cons y t =>
      have hy : y ∈ R.flatten := List.mem_flatten.2 ⟨a, ha, by rw [e]; simp⟩
      exact absurd (hsub y hy) (n y (by simp))
  subst this
  rw [e]; simpa using s

/-- Is one ahead of the other one in some row? -/
def aheadR (R : List Ids) (x y : Int × Int) : Prop := ∃ a, a ∈ R ∧ x ∈ a ∧ y ∈ a ∧ idxK a x < idxK a y
/-- There is no line: some that are left have each another one ahead of it. -/
theorem lineG_none {R : List Ids} (hn : ∀ a, a ∈ R → a.Nodup) : ∀ (n : Nat) {A : List Ids} {out : Ids}, LInv R A out → out.length + n = (ddF R.flatten).length → lineG R.flatten n A out = none → ∃ S : Ids, S ≠ [] ∧ (∀ x, x ∈ S → x ∈ R.flatten) ∧ ∀ x, x ∈ S → ∃ y, y ∈ S ∧ aheadR R y x
  | 0, A, out, I, hl, h => by simp only [lineG] at h; cases h
  | n + 1, A, out, I, hl, h => by
    simp only [lineG] at h
    cases hb : bestG (okF R.flatten A) none A with
    | some x =>
      rw [hb] at h
      rcases bestG_some hb with q | ⟨q1, q2⟩
      · cases q
      · obtain ⟨_, I2⟩ := I.step hn q1 q2
        exact lineG_none hn n I2 (by simp; omega) h
    | none =>
      have hl2 := bestG_least (ok := okF R.flatten A) (A := A) (acc := none)
      rw [hb] at hl2
      have hno := hl2.2
      have hin : ∀ a x, a ∈ A → x ∈ a → x ∈ R.flatten := fun a x ha hx => by
        obtain ⟨r, hr, p, e, s, n⟩ := all2_mem I.rows a ha
        exact List.mem_flatten.2 ⟨r, hr, by rw [e]; simp [hx]⟩
      refine ⟨headsF A, ?_, fun x hx => ?_, fun x hx => ?_⟩
      · -- something is left
        intro hnil
        have hall : ∀ z, z ∈ ddF R.flatten → z ∈ out := fun z hz => by
          refine Classical.byContradiction fun ho => ?_
          obtain ⟨a, ha, hza⟩ := I.left ((mem_ddF _ _).1 hz) ho
          cases a with
          | nil => simp at hza
          | cons y t =>
            have : y ∈ headsF A := by
              unfold headsF
              exact List.mem_filterMap.2 ⟨y :: t, ha, rfl⟩
            rw [hnil] at this; simp at this
        have := nodup_sub_len (nodup_ddF R.flatten) hall
        omega
      · obtain ⟨a, ha, hx2⟩ := List.mem_filterMap.1 hx
        exact hin a x ha (List.mem_of_mem_head? hx2)
      · obtain ⟨a, ha, hx2⟩ := List.mem_filterMap.1 hx
        have hxa := List.mem_of_mem_head? hx2
        have hbad := hno a x ha hx2
        -- some row has it, but not first
        have : ∃ b, b ∈ A ∧ x ∈ b ∧ b.head? ≠ some x := by
          refine Classical.byContradiction fun hnb => ?_
          have hxo : x ∉ out := by
            obtain ⟨r, hr, p, e, s, n⟩ := all2_mem I.rows a ha
            exact n x hxa
          have e : cntB (fun a => decide (a.head? = some x)) A = cntB (fun a => decide (x ∈ a)) R := by
            have key : ∀ {R' A' : List Ids}, All2 (fun r a => ∃ p : Ids, r = p ++ a ∧ p.Sublist out ∧ ∀ z, z ∈ a → z ∉ out) R' A' → (∀ a, a ∈ A' → a ∈ A) → cntB (fun a => decide (a.head? = some x)) A' = cntB (fun a => decide (x ∈ a)) R' := by
              intro R' A' k
              induction A' generalizing R' with
              | nil => intro _; cases R' with
                | nil => rfl
                | cons => exact k.elim
              | cons b A' ih => intro hA; cases R' with
                | nil => exact k.elim
                | cons r R' =>
                  rw [cntB_cons, cntB_cons, ih k.2 fun a h => hA a (by simp [h])]
                  congr 1
                  obtain ⟨p, e, s, n⟩ := k.1
                  by_cases hxb : x ∈ b
                  · have hh : b.head? = some x := Classical.byContradiction fun q => hnb ⟨b, hA b (by simp), hxb, q⟩
                    rw [if_pos (decide_eq_true hh), if_pos (decide_eq_true (by rw [e]; simp [hxb]))]
                  · have h1 : ¬ b.head? = some x := fun q => hxb (List.mem_of_mem_head? q)
                    have h2 : x ∉ r := fun q => by
                      rw [e] at q
                      rcases List.mem_append.1 q with z | z
                      · exact hxo (s.subset z)
                      · exact hxb z
                    rw [if_neg (by simpa using h1), if_neg (by simpa using h2)]
            exact key I.rows fun _ h => h
          have : okF R.flatten A x = true := by
            unfold okF
            rw [occ_heads, occ_flat x hn, e]
            simp
          rw [this] at hbad; cases hbad
        obtain ⟨b, hbA, hxb, hhb⟩ := this
        cases b with
        | nil => simp at hxb
        | cons y t =>
          have hyx : y ≠ x := fun q => hhb (by rw [q]; rfl)
          have hxt : x ∈ t := by
            rcases List.mem_cons.1 hxb with q | q
            · exact absurd q.symm hyx
            · exact q
          refine ⟨y, List.mem_filterMap.2 ⟨y :: t, hbA, rfl⟩, ?_⟩
          obtain ⟨r, hr, p, e, s, n⟩ := all2_mem I.rows _ hbA
          have hnr := hn r hr
          obtain ⟨j, hj⟩ := List.mem_iff_getElem?.1 hxt
          have i1 : idxK r y = p.length := idxK_of hnr (by rw [e]; simp)
          have i2 : idxK r x = p.length + (j + 1) := idxK_of hnr (by
            rw [e, List.getElem?_append_right (by omega)]
            have : p.length + (j + 1) - p.length = j + 1 := by omega
            rw [this]; simpa using hj)
          exact ⟨r, hr, by rw [e]; simp, by rw [e]; simp [hxt], by omega⟩
theorem lineF_none {R : List Ids} (hn : ∀ a, a ∈ R → a.Nodup) (h : lineF R = none) : ∃ S : Ids, S ≠ [] ∧ (∀ x, x ∈ S → x ∈ R.flatten) ∧ ∀ x, x ∈ S → ∃ y, y ∈ S ∧ aheadR R y x :=
  lineG_none hn _ LInv.start (by simp) h

/-- Finitely many, of which each has one ahead of it: some are in a ring. -/
theorem has_least {α : Type} {T : α → α → Prop} (tr : ∀ {a b c}, T a b → T b c → T a c) (ir : ∀ a, ¬ T a a) : ∀ (S : List α), S ≠ [] → ∃ m, m ∈ S ∧ ∀ x, x ∈ S → ¬ T x m
  | [], h => absurd rfl h
  | [a], _ => ⟨a, by simp, fun x hx => by simp at hx; subst hx; exact ir x⟩
  | a :: b :: S, _ => by
    obtain ⟨m, hm, hl⟩ := has_least (T := T) (fun h k => tr h k) ir (b :: S) (by simp)
    by_cases k : T a m
    · refine ⟨a, by simp, fun x hx => ?_⟩
      rcases List.mem_cons.1 hx with q | q
      · rw [q]; exact ir a
      · exact fun z => hl x q (tr z k)
    · refine ⟨m, by simp [hm], fun x hx => ?_⟩
      rcases List.mem_cons.1 hx with q | q
      · rw [q]; exact k
      · exact hl x q
theorem ring_of {α : Type} {T : α → α → Prop} {S : List α} (hS : S ≠ []) (h : ∀ x, x ∈ S → ∃ y, y ∈ S ∧ T y x) : ∃ x, Rch T x x := by
  refine Classical.byContradiction fun hno => ?_
  obtain ⟨m, hm, hl⟩ := has_least (T := Rch T) (fun a b => a.trans b) (fun a k => hno ⟨a, k⟩) S hS
  obtain ⟨y, hy, hT⟩ := h m hm
  exact hl y hy (.one hT)
theorem rch_rank {α : Type} {T : α → α → Prop} {f : α → Nat} (h : ∀ x y, T x y → f x < f y) {x y : α} (k : Rch T x y) : f x < f y := by
  induction k with
  | one q => exact h _ _ q
  | step _ q ih => exact Nat.lt_trans ih (h _ _ q)
theorem sub_idx : ∀ {a l : Ids}, a.Sublist l → l.Nodup → ∀ {x y : Int × Int}, x ∈ a → y ∈ a → idxK a x < idxK a y → idxK l x < idxK l y := by
  intro a l s hl x y hx hy hlt
  have ha := s.nodup hl
  -- both are read by pairs
  have key : ∀ {a l : Ids}, a.Sublist l → ∀ {i j : Nat} {x y : Int × Int}, i < j → a[i]? = some x → a[j]? = some y → ∃ p q : Nat, p < q ∧ l[p]? = some x ∧ l[q]? = some y := by
    intro a l s
    induction s with
    | slnil => intro i j x y _ h; simp at h
    | cons c s ih =>
      intro i j x y hij h1 h2
      obtain ⟨p, q, k1, k2, k3⟩ := ih hij h1 h2
      exact ⟨p + 1, q + 1, by omega, by simpa using k2, by simpa using k3⟩
    | cons_cons c s ih =>
      intro i j x y hij h1 h2
      cases j with
      | zero => omega
      | succ j =>
        cases i with
        | zero =>
          simp at h1; subst h1
          have hm := s.subset (List.mem_of_getElem? (by simpa using h2))
          obtain ⟨q, hq⟩ := List.mem_iff_getElem?.1 hm
          exact ⟨0, q + 1, by omega, rfl, by simpa using hq⟩
        | succ i =>
          obtain ⟨p, q, k1, k2, k3⟩ := ih (i := i) (j := j) (x := x) (y := y) (by omega) (by simpa using h1) (by simpa using h2)
          exact ⟨p + 1, q + 1, by omega, by simpa using k2, by simpa using k3⟩
  obtain ⟨p, q, k1, k2, k3⟩ := key s hlt (idx_at hx) (idx_at hy)
  rw [idxK_of hl k2, idxK_of hl k3]; exact k1
/-- A line stands, just where no ring does. -/
theorem line_rank {R : List Ids} (hn : ∀ a, a ∈ R → a.Nodup) {res : Ids} (h : lineF R = some res) {x y : Int × Int} (k : aheadR R x y) : idxK res x < idxK res y := by
  obtain ⟨a, ha, hx, hy, hlt⟩ := k
  obtain ⟨h1, h2, h3, _⟩ := lineF_some hn h
  exact sub_idx (h3 a ha) h1 hx hy hlt
theorem line_ring {R : List Ids} (hn : ∀ a, a ∈ R → a.Nodup) : (lineF R).isSome = false ↔ ∃ x, Rch (aheadR R) x x := by
  constructor
  · intro h
    cases hl : lineF R with
    | some r => rw [hl] at h; cases h
    | none =>
      obtain ⟨S, h1, _, h2⟩ := lineF_none hn hl
      exact ring_of h1 h2
  · rintro ⟨x, hx⟩
    cases hl : lineF R with
    | none => rfl
    | some res =>
      have := rch_rank (f := fun x => idxK res x) (fun x y k => line_rank hn hl k) hx
      omega
theorem Rch.mono {α : Type} {T U : α → α → Prop} (h : ∀ x y, T x y → U x y) {x y : α} (k : Rch T x y) : Rch U x y := by
  induction k with
  | one q => exact .one (h _ _ q)
  | step _ q ih => exact .step ih (h _ _ q)
theorem line_less {R S : List Ids} (hR : ∀ a, a ∈ R → a.Nodup) (hS : ∀ a, a ∈ S → a.Nodup) (h : ∀ a, a ∈ S → a ∈ R) (k : (lineF R).isSome = true) : (lineF S).isSome = true := by
  cases hs : (lineF S).isSome with
  | true => rfl
  | false =>
    obtain ⟨x, hx⟩ := (line_ring hS).1 hs
    have := (line_ring hR).2 ⟨x, hx.mono fun x y ⟨a, ha, q⟩ => ⟨a, h a ha, q⟩⟩
    rw [this] at k; cases k
end Go.Proofs.Ytochkdifpgelmaa

/-! TraceLine: the matrix of who is ahead of whom. -/
namespace Go.Proofs.Ytochkdifpgelmaa
open Go.Ab

/-! ### matrices -/

def matC (A : Nat → Nat → Bool) : List AVal := (List.range 900).map fun k => .bool (A (k / 30) (k % 30))
def updM (A : Nat → Nat → Bool) (i j : Nat) (b : Bool) : Nat → Nat → Bool := fun x y => if x = i ∧ y = j then b else A x y
theorem mat_len (A : Nat → Nat → Bool) : (matC A).length = 900 := by simp [matC]
theorem mat_at (A : Nat → Nat → Bool) {i j : Nat} (hi : i < 30) (hj : j < 30) : (matC A)[i * 30 + j]? = some (.bool (A i j)) := by
  have h1 : (i * 30 + j) / 30 = i := by omega
  have h2 : (i * 30 + j) % 30 = j := by omega
  simp only [matC, List.getElem?_map]
  rw [List.getElem?_range (by omega)]
  simp [h1, h2]
theorem mat_set (A : Nat → Nat → Bool) {i j : Nat} (hi : i < 30) (hj : j < 30) (b : Bool) : (matC A).set (i * 30 + j) (.bool b) = matC (updM A i j b) := by
  apply List.ext_getElem?
  intro k
  rw [List.getElem?_set]
  simp only [matC, List.getElem?_map, List.length_map, List.length_range]
  by_cases hk : i * 30 + j = k
  · subst hk
    rw [if_pos rfl, if_pos (by omega), List.getElem?_range (by omega)]
    have h1 : (i * 30 + j) / 30 = i := by omega
    have h2 : (i * 30 + j) % 30 = j := by omega
    simp [updM, h1, h2]
  · rw [if_neg hk]
    by_cases hl : k < 900
    · rw [List.getElem?_range hl]
      simp only [Option.map_some, updM]
      rw [if_neg (by omega)]
    · rw [List.getElem?_eq_none (by simp; omega)]; rfl
theorem ix_row {b i : Nat} (h : i < 30) : ixpR 30 30 (.ptr b 0) (.int .i64 (i : Int)) = some (.ptr b (i * 30)) := by
  have := ixp_at (len := 30) (z := 30) (b := b) (o := 0) h
  simpa using this
theorem ix_col {b i j : Nat} (h : j < 30) : ixpR 30 1 (.ptr b (i * 30)) (.int .i64 (j : Int)) = some (.ptr b (i * 30 + j)) := by
  have := ixp_at (len := 30) (z := 1) (b := b) (o := i * 30) h
  simpa using this

/-! ### closures -/

/-- Over points below k. -/
def PK (E : Nat → Nat → Prop) : Nat → Nat → Nat → Prop
  | 0, i, j => E i j
  | k + 1, i, j => PK E k i j ∨ (PK E k i k ∧ PK E k k j)
theorem PK.trans {E : Nat → Nat → Prop} : ∀ {k m i j : Nat}, m < k → PK E k i m → PK E k m j → PK E k i j
  | 0, m, i, j, h, _, _ => by omega
  | k + 1, m, i, j, h, a, b => by
    by_cases hm : m = k
    · subst hm
      have a' : PK E m i m := by rcases a with q | q; exact q; exact q.1
      have b' : PK E m m j := by rcases b with q | q; exact q; exact q.2
      exact .inr ⟨a', b'⟩
    · have hm : m < k := by omega
      rcases a with q | q <;> rcases b with r | r
      · exact .inl (PK.trans hm q r)
      · exact .inr ⟨PK.trans hm q r.1, r.2⟩
      · exact .inr ⟨q.1, PK.trans hm q.2 r⟩
      · exact .inr ⟨q.1, r.2⟩
theorem PK.base {E : Nat → Nat → Prop} {i j : Nat} (h : E i j) : ∀ k, PK E k i j
  | 0 => h
  | k + 1 => .inl (PK.base h k)
theorem PK.all {E : Nat → Nat → Prop} {n : Nat} (hE : ∀ i j, E i j → i < n ∧ j < n) {i j : Nat} (h : Rch E i j) : PK E n i j := by
  induction h with
  | one q => exact PK.base q n
  | step _ q ih => exact PK.trans (hE _ _ q).1 ih (PK.base q n)
theorem PK.sound {E : Nat → Nat → Prop} : ∀ {k i j : Nat}, PK E k i j → Rch E i j
  | 0, i, j, h => .one h
  | k + 1, i, j, h => by
    rcases h with q | q
    · exact PK.sound q
    · exact (PK.sound q.1).trans (PK.sound q.2)

/-! ### all that anybody heard -/

def allF (m : List Mk) : Ids := ddF ((m.filter fun k => !k.sent).map mid)
theorem mem_allF {m : List Mk} {x : Int × Int} : x ∈ allF m ↔ ∃ k, k ∈ m ∧ k.sent = false ∧ mid k = x := by
  simp only [allF, mem_ddF, List.mem_map, List.mem_filter, Bool.not_eq_true']
  exact ⟨fun ⟨k, ⟨a, b⟩, c⟩ => ⟨k, a, b, c⟩, fun ⟨k, a, b, c⟩ => ⟨k, ⟨a, b⟩, c⟩⟩
theorem mem_heardL' {m : List Mk} {c : Int} {x : Int × Int} : x ∈ heardL m c ↔ ∃ k, k ∈ m ∧ k.sent = false ∧ k.c = c ∧ mid k = x := by
  simp only [heardL, List.mem_map, List.mem_filter, heardBy, Bool.and_eq_true, Bool.not_eq_true', decide_eq_true_eq]
  exact ⟨fun ⟨k, ⟨a, b, c⟩, d⟩ => ⟨k, a, b, c, d⟩, fun ⟨k, a, b, c, d⟩ => ⟨k, ⟨a, b, c⟩, d⟩⟩
theorem mem_flat {m : List Mk} {x : Int × Int} : x ∈ (rowsF m).flatten ↔ x ∈ allF m := by
  rw [mem_allF]
  simp only [List.mem_flatten, rowsF, List.mem_map]
  constructor
  · rintro ⟨a, ⟨c, hc, rfl⟩, hx⟩
    rw [firF, mem_ddF, mem_heardL'] at hx
    obtain ⟨k, h1, h2, _, h4⟩ := hx
    exact ⟨k, h1, h2, h4⟩
  · rintro ⟨k, h1, h2, h3⟩
    exact ⟨firF m k.c, ⟨k.c, mem_cliF.2 ⟨k, h1, h2, rfl⟩, rfl⟩, by rw [firF, mem_ddF, mem_heardL']; exact ⟨k, h1, h2, rfl, h3⟩⟩
theorem allF_len {m : List Mk} (h : ∀ k, k ∈ m → (1 ≤ k.f ∧ k.f ≤ 3) ∧ (1 ≤ k.s ∧ k.s ≤ 3)) : (allF m).length ≤ 9 := by
  have := nodup_sub_len (l := allF m) (m := [(1, 1), (1, 2), (1, 3), (2, 1), (2, 2), (2, 3), (3, 1), (3, 2), (3, 3)]) (nodup_ddF _) fun x hx => by
    obtain ⟨k, h1, h2, rfl⟩ := mem_allF.1 hx
    obtain ⟨⟨a1, a2⟩, b1, b2⟩ := h k h1
    have hf : k.f = 1 ∨ k.f = 2 ∨ k.f = 3 := by omega
    have hs : k.s = 1 ∨ k.s = 2 ∨ k.s = 3 := by omega
    have e : mid k = (k.f, k.s) := by simp [mid, h2]
    rw [e]
    rcases hf with q | q | q <;> rcases hs with r | r | r <;> rw [q, r] <;> simp
  simpa using this
/-- In a row, and in what it came of, the first places lie alike. -/
theorem dd_order {l : Ids} {x y : Int × Int} (hx : x ∈ l) (hy : y ∈ l) : idxK (ddF l) x < idxK (ddF l) y ↔ idxK l x < idxK l y := by
  induction l using list_end with
  | h0 => simp at hx
  | h1 l z ih =>
    have hd : ∀ w, w ∈ l → idxK (ddF (l ++ [z])) w = idxK (ddF l) w := fun w hw => by
      rw [ddF_app]
      unfold insK
      split
      · rfl
      · exact idxK_old ((mem_ddF _ _).2 hw)
    have hn : ∀ w, w ∉ l → w = z → idxK (ddF (l ++ [z])) w = (ddF l).length ∧ idxK (l ++ [z]) w = l.length := fun w hw e => by
      subst e
      have hw' : w ∉ ddF l := fun q => hw ((mem_ddF _ _).1 q)
      rw [ddF_app, insK_new hw']
      exact ⟨idxK_app hw', idxK_app hw⟩
    have lt1 : ∀ w, w ∈ l → idxK (ddF l) w < (ddF l).length := fun w hw => idxK_lt ((mem_ddF _ _).2 hw)
    by_cases h1 : x ∈ l
    · by_cases h2 : y ∈ l
      · rw [hd x h1, hd y h2, idxK_old h1, idxK_old h2]; exact ih h1 h2
      · have : y = z := by simpa [h2] using hy
        obtain ⟨k1, k2⟩ := hn y h2 this
        rw [hd x h1, k1, k2, idxK_old h1]
        have := lt1 x h1
        have := idxK_lt h1
        omega
    · have hxz : x = z := by simpa [h1] using hx
      obtain ⟨k1, k2⟩ := hn x h1 hxz
      by_cases h2 : y ∈ l
      · rw [k1, k2, hd y h2, idxK_old h2]
        have := lt1 y h2
        have := idxK_lt h2
        omega
      · have hyz : y = z := by simpa [h2] using hy
        rw [hxz, hyz]
        simp

/-- Between their places. -/
def EM (m : List Mk) (p q : Nat) : Prop := ∃ x y, (allF m)[p]? = some x ∧ (allF m)[q]? = some y ∧ ∃ c : Int, 1 ≤ c ∧ c ≤ 3 ∧ x ∈ heardL m c ∧ y ∈ heardL m c ∧ idxK (heardL m c) x < idxK (heardL m c) y
theorem EM.lt {m : List Mk} {p q : Nat} (h : EM m p q) : p < (allF m).length ∧ q < (allF m).length := by
  obtain ⟨x, y, h1, h2, _⟩ := h
  exact ⟨(List.getElem?_eq_some_iff.1 h1).1, (List.getElem?_eq_some_iff.1 h2).1⟩
theorem EM.ahead {m : List Mk} {p q : Nat} {x y : Int × Int} (hx : (allF m)[p]? = some x) (hy : (allF m)[q]? = some y) (h : EM m p q) : aheadR (rowsF m) x y := by
  obtain ⟨x', y', h1, h2, c, c1, c2, h3, h4, h5⟩ := h
  rw [hx] at h1; cases h1
  rw [hy] at h2; cases h2
  obtain ⟨k, k1, k2, k3, k4⟩ := mem_heardL'.1 h3
  refine ⟨firF m c, ?_, (mem_ddF _ _).2 h3, (mem_ddF _ _).2 h4, (dd_order h3 h4).2 h5⟩
  rw [rowsF, List.mem_map]
  exact ⟨c, mem_cliF.2 ⟨k, k1, k2, k3⟩, rfl⟩
theorem EM.of {m : List Mk} (hb : ∀ k, k ∈ m → 1 ≤ k.c ∧ k.c ≤ 3) {x y : Int × Int} (h : aheadR (rowsF m) x y) : x ∈ allF m ∧ y ∈ allF m ∧ EM m (idxK (allF m) x) (idxK (allF m) y) := by
  obtain ⟨a, ha, hx, hy, hlt⟩ := h
  have fx : x ∈ allF m := mem_flat.1 (List.mem_flatten.2 ⟨a, ha, hx⟩)
  have fy : y ∈ allF m := mem_flat.1 (List.mem_flatten.2 ⟨a, ha, hy⟩)
  rw [rowsF, List.mem_map] at ha
  obtain ⟨c, hc, rfl⟩ := ha
  have hx' := (mem_ddF _ _).1 hx
  have hy' := (mem_ddF _ _).1 hy
  obtain ⟨k, k1, k2, k3, k4⟩ := mem_heardL'.1 hx'
  have := hb k k1
  exact ⟨fx, fy, x, y, idx_at fx, idx_at fy, c, by omega, by omega, hx', hy', (dd_order hx' hy').1 hlt⟩
theorem EM.rch {m : List Mk} (hb : ∀ k, k ∈ m → 1 ≤ k.c ∧ k.c ≤ 3) {x y : Int × Int} (h : Rch (aheadR (rowsF m)) x y) : Rch (EM m) (idxK (allF m) x) (idxK (allF m) y) := by
  induction h with
  | one q => exact .one (EM.of hb q).2.2
  | step _ q ih => exact .step ih (EM.of hb q).2.2
theorem EM.rch' {m : List Mk} {p q : Nat} {x y : Int × Int} (hx : (allF m)[p]? = some x) (hy : (allF m)[q]? = some y) (h : Rch (EM m) p q) : Rch (aheadR (rowsF m)) x y := by
  induction h generalizing y with
  | one k => exact .one (EM.ahead hx hy k)
  | step _ k ih =>
    rename_i z w _
    obtain ⟨u, hu⟩ : ∃ u, (allF m)[z]? = some u := ⟨_, List.getElem?_eq_getElem k.lt.1⟩
    exact .step (ih hu) (EM.ahead hu hy k)
end Go.Proofs.Ytochkdifpgelmaa

/-! TraceLine: its loops. -/
namespace Go.Proofs.Ytochkdifpgelmaa
open Go.Ab

section
variable {X : XTab}
theorem at_cb (hX : OnlyKnown X) {g : Heap} {v : AVal} {l : Ids} (o : Sl idR g v l) (hl : l.length ≤ 1000) (y : Int × Int) : Tells (fun q => acallX Try.prog X q F_precentorlaw25_at [v, .agg [I y.1, I y.2]] g) fun r h' => r = I (posF l y - 1) ∧ Ext [] g h' := law_at hX o hl y

theorem tl_all (hX : OnlyKnown X) {g : Heap} {v : AVal} {m : List Mk} {t : T} (o : Sl mkR g v m) (hl : m.length ≤ 100) (t3 : t 3 = v) (t6 : t 6 = .nils) (t7 : t 7 = I 0) :
    Tells (fun q => loopN (L_precentorlaw25_TraceLine_29 Try.prog (acallX Try.prog X q) q) q t g) fun z g' => z.1 = .exit 0 ∧ Ext [] g g' ∧ Gl idR g g' (z.2 6) (allF m) ∧ ∀ j, j ≤ 5 → z.2 j = t j := by
  refine Tells.loop (fun n t' g' => ∃ j : Nat, t' 7 = I j ∧ j + n = m.length ∧ Ext [] g g' ∧ Gl idR g g' (t' 6) (allF (m.take j)) ∧ ∀ j, j ≤ 5 → t' j = t j) ?_ m.length _ _ ?_
  · rintro n u g1 ⟨j, u7, hj, x, go, fr⟩
    have u3 : u 3 = v := (fr 3 (by decide)).trans t3
    refine Tells.prot fun Q2 hQ2 => ?_
    unfold L_precentorlaw25_TraceLine_29
    simp [u7, u3, (o.ext x).len]
    refine Tells.cb (fun hc => ?_) (fun hc => ?_)
    · simp at hc
      obtain ⟨k, hk⟩ : ∃ k, m[j]? = some k := ⟨_, List.getElem?_eq_getElem hc⟩
      obtain ⟨b, p, B, q1, q2, q3, q4, q5, q6, q7, q8, q9⟩ := mk_at (o.ext x) hk
      have htk : m.take (j + 1) = m.take j ++ [k] := by rw [List.take_add_one, hk]; rfl
      have w : IntKind.i64.wrap ((j : Int) + 1) = j + 1 := wrap_id (by omega) (by omega)
      have hal : (allF (m.take j)).length ≤ 100 := by
        refine Nat.le_trans (ddF_len _) ?_
        rw [List.length_map]
        exact Nat.le_trans (List.length_filter_le _ _) (by simp; omega)
      simp [J_precentorlaw25_TraceLine_30, u7, u3, q1, q2, q8, q9, bldR, fillR, splice]
      refine Tells.newV fun g2 yb oy y2 ly => ?_
      refine Tells.stNE oy (ds := [I k.f, I k.s]) (by rfl) (by rfl) (by rfl) (by rfl) fun g3 oy3 y3 => ?_
      have y23 : Ext [] g1 g3 := y2.then y3 (S := []) (by simp; omega)
      have x3 := x.trans y23
      have go3 := go.e y23
      obtain ⟨b', p', B', r1, r2, r3, r4, r5, r6, r7, r8, r9⟩ := mk_at (o.ext x3) hk
      cases q1.symm.trans r1
      have oye := oy3.1
      have oy3' := oye
      simp [u7, u3, q1, r2, r6]
      by_cases hs : k.sent = true
      · have he : allF (m.take (j + 1)) = allF (m.take j) := by rw [htk]; simp [allF, List.filter_append, List.filter, hs]
        simp [hs, J_precentorlaw25_TraceLine_31, u7, w]
        refine Tells.ok (hQ2 _ _ (.inl ⟨rfl, n - 1, by omega, j + 1, by simp, by omega, x3, by rw [he]; simpa using go3, fun z hz => ?_⟩))
        simp only [upd]
        repeat rw [if_neg (by omega)]
        exact fr z hz
      · have hs' : k.sent = false := by simpa using hs
        have hm : mid k = (k.f, k.s) := by simp [mid, hs']
        have he : allF (m.take (j + 1)) = insK (allF (m.take j)) (k.f, k.s) := by rw [htk]; simp [allF, List.filter_append, List.filter, hs', ddF_app, hm]
        simp [hs', oye]
        refine Tells.bind (at_cb hX go3.1 (by omega) (k.f, k.s)) ?_
        rintro _ g4 ⟨rfl, x4⟩
        have oy4 := (oy3.e x4).1
        by_cases hin : (k.f, k.s) ∈ allF (m.take j)
        · have hge : ¬ posF (allF (m.take j)) (k.f, k.s) - 1 < 0 := by rw [posF_in hin]; omega
          simp [hge, J_precentorlaw25_TraceLine_31, u7, w]
          refine Tells.ok (hQ2 _ _ (.inl ⟨rfl, n - 1, by omega, j + 1, by simp, by omega, x3.trans x4, by rw [he, insK_in hin]; simpa using go3.e x4, fun z hz => ?_⟩))
          simp only [upd]
          repeat rw [if_neg (by omega)]
          exact fr z hz
        · have hge : posF (allF (m.take j)) (k.f, k.s) - 1 < 0 := by rw [posF_out hin]; omega
          simp [hge, oy4]
          refine Tells.app1 (r := idR) (c := [I k.f, I k.s]) (x := (k.f, k.s)) (go3.e x4) (by rfl) (by rfl) (by rfl) (by rfl) (by rfl) (by omega) (by decide) (x3.trans x4).next fun s5 g5 go5 y5 y5' z5 => ?_
          simp [J_precentorlaw25_TraceLine_31, u7, w]
          refine Tells.ok (hQ2 _ _ (.inl ⟨rfl, n - 1, by omega, j + 1, by simp, by omega, y5' _ (x3.trans x4), by rw [he, insK_new hin]; simpa using go5, fun z hz => ?_⟩))
          simp only [upd]
          repeat rw [if_neg (by omega)]
          exact fr z hz
    · simp at hc
      refine Tells.ok (hQ2 _ _ (.inr ⟨by simp, rfl, x, ?_, fun z hz => ?_⟩))
      · rw [List.take_of_length_le (by omega)] at go
        simpa using go
      · simp only [upd]
        repeat rw [if_neg (by omega)]
        exact fr z hz
  · exact ⟨0, t7, by omega, .refl, by simpa [t6, allF, ddF] using Gl.nil, fun _ _ => rfl⟩

/-- Is it told that the i-th of a row is ahead of the j-th, where both stand there first? -/
def DoneP (m : List Mk) (A : Nat → Nat → Bool) (c : Int) (i j : Nat) : Prop := ∀ x y, (heardL m c)[i]? = some x → (heardL m c)[j]? = some y → idxK (heardL m c) x = i → idxK (heardL m c) y = j → A (idxK (allF m) x) (idxK (allF m) y) = true
def SoundM (m : List Mk) (A : Nat → Nat → Bool) : Prop := ∀ p q, A p q = true → EM m p q
def GrowM (A B : Nat → Nat → Bool) : Prop := ∀ p q, A p q = true → B p q = true
theorem GrowM.done {m : List Mk} {A B : Nat → Nat → Bool} (h : GrowM A B) {c : Int} {i j : Nat} (d : DoneP m A c i j) : DoneP m B c i j := fun x y h1 h2 h3 h4 => h _ _ (d x y h1 h2 h3 h4)
theorem GrowM.upd (A : Nat → Nat → Bool) (p q : Nat) : GrowM A (updM A p q true) := fun a b h => by
  unfold updM
  split
  · rfl
  · exact h

theorem tl_pair (hX : OnlyKnown X) {g : Heap} {hv av : AVal} {m : List Mk} {c : Int} {i bm : Nat} {A : Nat → Nat → Bool} {t : T} (hc1 : 1 ≤ c ∧ c ≤ 3) (oh : Sl idR g hv (heardL m c)) (oa : Sl idR g av (allF m)) (hl : m.length ≤ 100) (ha : (allF m).length ≤ 9) (hi : i < (heardL m c).length) (ob : Ob g bm (matC A)) (hs : SoundM m A)
    (t6 : t 6 = av) (t9 : t 9 = .ptr bm 0) (t11 : t 11 = hv) (t12 : t 12 = I i) (t13 : t 13 = I (i + 1 : Nat)) :
    Tells (fun q => loopN (L_precentorlaw25_TraceLine_26 Try.prog (acallX Try.prog X q) q) q t g) fun z g' => z.1 = .exit 6 ∧ Ext [bm] g g' ∧ (∃ B, Ob g' bm (matC B) ∧ SoundM m B ∧ GrowM A B ∧ ∀ j, i < j → DoneP m B c i j) ∧ ∀ j, j ≤ 12 → z.2 j = t j := by
  have hhl : (heardL m c).length ≤ 100 := Nat.le_trans (heardL_len m c) hl
  refine Tells.loop (fun n t' g' => ∃ (j : Nat) (B : Nat → Nat → Bool), t' 13 = I j ∧ i < j ∧ j ≤ max (i + 1) (heardL m c).length ∧ j + n = max (i + 1) (heardL m c).length ∧ Ext [bm] g g' ∧ Ob g' bm (matC B) ∧ SoundM m B ∧ GrowM A B ∧ (∀ j', i < j' → j' < j → DoneP m B c i j') ∧ ∀ j, j ≤ 12 → t' j = t j) ?_ (max (i + 1) (heardL m c).length - (i + 1)) _ _ ?_
  · rintro n u g1 ⟨j, B, u13, hij, hjm, hj, x, ob1, hs1, hg1, hd1, fr⟩
    have u6 : u 6 = av := (fr 6 (by decide)).trans t6
    have u9 : u 9 = .ptr bm 0 := (fr 9 (by decide)).trans t9
    have u11 : u 11 = hv := (fr 11 (by decide)).trans t11
    have u12 : u 12 = I i := (fr 12 (by decide)).trans t12
    refine Tells.prot fun Q2 hQ2 => ?_
    unfold L_precentorlaw25_TraceLine_26
    simp [u13, u11, (oh.ext x).len]
    refine Tells.cb (fun hc => ?_) (fun hc => ?_)
    · simp at hc
      obtain ⟨a, hxa⟩ : ∃ a, (heardL m c)[i]? = some a := ⟨_, List.getElem?_eq_getElem hi⟩
      obtain ⟨d, hxd⟩ : ∃ d, (heardL m c)[j]? = some d := ⟨_, List.getElem?_eq_getElem hc⟩
      have ma := List.mem_of_getElem? hxa
      have md := List.mem_of_getElem? hxd
      have fa : a ∈ allF m := by
        obtain ⟨k, k1, k2, k3, k4⟩ := mem_heardL'.1 ma
        exact mem_allF.2 ⟨k, k1, k2, k4⟩
      have fd : d ∈ allF m := by
        obtain ⟨k, k1, k2, k3, k4⟩ := mem_heardL'.1 md
        exact mem_allF.2 ⟨k, k1, k2, k4⟩
      have la := idxK_lt fa
      have ld := idxK_lt fd
      obtain ⟨b, p, C, q1, q2, q3, q4, q5, q6, q7⟩ := id_at (oh.ext x) hxa
      have w : IntKind.i64.wrap ((j : Int) + 1) = j + 1 := wrap_id (by omega) (by omega)
      have pa : posF (heardL m c) a - 1 = (idxK (heardL m c) a : Nat) := by rw [posF_in ma]; omega
      have pd : posF (heardL m c) d - 1 = (idxK (heardL m c) d : Nat) := by rw [posF_in md]; omega
      have skip : ¬ (idxK (heardL m c) a = i ∧ idxK (heardL m c) d = j) → ∀ j', i < j' → j' < j + 1 → DoneP m B c i j' := fun hno j' h1 h2 => by
        by_cases q : j' = j
        · subst q
          intro x y hx hy ex ey
          rw [hxa] at hx; cases hx
          rw [hxd] at hy; cases hy
          exact absurd ⟨ex, ey⟩ hno
        · exact hd1 j' h1 (by omega)
      simp [J_precentorlaw25_TraceLine_27, u13, u11, u12, q1, q2, q3, q4]
      refine Tells.bind (at_cb hX (oh.ext x) (by omega) a) ?_
      rintro _ g2 ⟨rfl, x2⟩
      rw [pa]
      by_cases e1 : idxK (heardL m c) a = i
      · obtain ⟨b', p', C', r1, r2, r3, r4, r5, r6, r7⟩ := id_at ((oh.ext x).ext x2) hxd
        simp [e1, u12, u11, u13, r1, r2, r3, r4]
        refine Tells.bind (at_cb hX ((oh.ext x).ext x2) (by omega) d) ?_
        rintro _ g3 ⟨rfl, x3⟩
        rw [pd]
        by_cases e2 : idxK (heardL m c) d = j
        · obtain ⟨b1, p1, C1, s1, s2, s3, s4, s5, s6, s7⟩ := id_at (((oh.ext x).ext x2).ext x3) hxa
          cases q1.symm.trans s1
          simp [e2, u12, u13, u11, u6, s1, s2, s3, s4]
          refine Tells.cbE (at_cb hX (((oa.ext x).ext x2).ext x3) (by omega) a) ?_
          rintro _ g4 ⟨rfl, x4⟩
          obtain ⟨b2, p2, C2, v1, v2, v3, v4, v5, v6, v7⟩ := id_at (((oh.ext x).ext x2).ext x3) hxd
          obtain ⟨b3, p3, C3, z1, z2, z3, z4, z5, z6, z7⟩ := id_at ((((oh.ext x).ext x2).ext x3).ext x4) hxd
          cases r1.symm.trans v1
          cases r1.symm.trans z1
          simp [u13, u11, u6, r1, z2, z3, z4, v2, v3, v4]
          refine Tells.cbE (at_cb hX ((((oa.ext x).ext x2).ext x3).ext x4) (by omega) d) ?_
          rintro _ g5 ⟨rfl, x5⟩
          have paa : posF (allF m) a - 1 = (idxK (allF m) a : Nat) := by rw [posF_in fa]; omega
          have pdd : posF (allF m) d - 1 = (idxK (allF m) d : Nat) := by rw [posF_in fd]; omega
          have ob5 := (((ob1.e x2).e x3).e x4).e x5
          rw [paa, pdd]
          simp [u9, ix_row (b := bm) (show idxK (allF m) a < 30 by omega), ix_col (b := bm) (i := idxK (allF m) a) (show idxK (allF m) d < 30 by omega)]
          refine Tells.st1E ob5 (by rfl) (by rfl) (by rw [mat_len]; omega) fun g6 ob6 x6 => ?_
          rw [mat_set B (by omega) (by omega)] at ob6
          simp [J_precentorlaw25_TraceLine_28, u13, w]
          have hg := GrowM.upd B (idxK (allF m) a) (idxK (allF m) d)
          refine Tells.ok (hQ2 _ _ (.inl ⟨rfl, n - 1, by omega, j + 1, updM B (idxK (allF m) a) (idxK (allF m) d) true, by simp, by omega, by omega, by omega, ((((x.quiet x2).quiet x3).quiet x4).quiet x5).trans x6, ob6, ?_, fun p q h => hg p q (hg1 p q h), ?_, fun z hz => ?_⟩))
          · intro p q hpq
            unfold updM at hpq
            split at hpq
            · rename_i hh
              rw [hh.1, hh.2]
              exact ⟨a, d, idx_at fa, idx_at fd, c, hc1.1, hc1.2, ma, md, by omega⟩
            · exact hs1 p q hpq
          · intro j' h1 h2
            by_cases q : j' = j
            · subst q
              intro x y hx hy ex ey
              rw [hxa] at hx; cases hx
              rw [hxd] at hy; cases hy
              unfold updM
              rw [if_pos ⟨rfl, rfl⟩]
            · exact hg.done (hd1 j' h1 (by omega))
          · simp only [upd]
            repeat rw [if_neg (by omega)]
            exact fr z hz
        · have e2' : ¬ (idxK (heardL m c) d : Int) = (j : Int) := by omega
          have e2b : ((idxK (heardL m c) d : Int) == (j : Int)) = false := by simpa using e2'
          simp [e2, e2', e2b, J_precentorlaw25_TraceLine_28, u13, w]
          refine Tells.ok (hQ2 _ _ (.inl ⟨rfl, n - 1, by omega, j + 1, B, by simp, by omega, by omega, by omega, (x.quiet x2).quiet x3, (ob1.e x2).e x3, hs1, hg1, skip (fun q => e2 q.2), fun z hz => ?_⟩))
          simp only [upd]
          repeat rw [if_neg (by omega)]
          exact fr z hz
      · have e1' : ¬ (idxK (heardL m c) a : Int) = (i : Int) := by omega
        have e1b : ((idxK (heardL m c) a : Int) == (i : Int)) = false := by simpa using e1'
        simp [e1, e1', e1b, J_precentorlaw25_TraceLine_28, u13, w]
        refine Tells.ok (hQ2 _ _ (.inl ⟨rfl, n - 1, by omega, j + 1, B, by simp, by omega, by omega, by omega, x.quiet x2, ob1.e x2, hs1, hg1, skip (fun q => e1 q.1), fun z hz => ?_⟩))
        simp only [upd]
        repeat rw [if_neg (by omega)]
        exact fr z hz
    · simp at hc
      refine Tells.ok (hQ2 _ _ (.inr ⟨by simp, rfl, x, ⟨B, ob1, hs1, hg1, fun j' h1 => ?_⟩, fun z hz => ?_⟩))
      · by_cases q : j' < j
        · exact hd1 j' h1 q
        · intro x y _ hy
          have := (List.getElem?_eq_some_iff.1 hy).1
          omega
      · simp only [upd]
        repeat rw [if_neg (by omega)]
        exact fr z hz
  · exact ⟨i + 1, A, by simpa using t13, by omega, by omega, by omega, .refl, ob, hs, fun _ _ h => h, fun j' h1 h2 => by omega, fun _ _ => rfl⟩
end
end Go.Proofs.Ytochkdifpgelmaa

/-! TraceLine: more of its loops. -/
namespace Go.Proofs.Ytochkdifpgelmaa
open Go.Ab

section
variable {X : XTab}
theorem tl_row (hX : OnlyKnown X) {g : Heap} {hv av : AVal} {m : List Mk} {c : Int} {bm : Nat} {A : Nat → Nat → Bool} {t : T} (hc1 : 1 ≤ c ∧ c ≤ 3) (oh : Sl idR g hv (heardL m c)) (oa : Sl idR g av (allF m)) (hl : m.length ≤ 100) (ha : (allF m).length ≤ 9) (ob : Ob g bm (matC A)) (hs : SoundM m A)
    (t6 : t 6 = av) (t9 : t 9 = .ptr bm 0) (t11 : t 11 = hv) (t12 : t 12 = I 0) :
    Tells (fun q => loopN (L_precentorlaw25_TraceLine_23 Try.prog (acallX Try.prog X q) q) q t g) fun z g' => z.1 = .exit 4 ∧ Ext [bm] g g' ∧ (∃ B, Ob g' bm (matC B) ∧ SoundM m B ∧ GrowM A B ∧ ∀ i j, i < j → DoneP m B c i j) ∧ ∀ j, j ≤ 11 → z.2 j = t j := by
  have hhl : (heardL m c).length ≤ 100 := Nat.le_trans (heardL_len m c) hl
  refine Tells.loop (fun n t' g' => ∃ (i : Nat) (B : Nat → Nat → Bool), t' 12 = I i ∧ i + n = (heardL m c).length ∧ Ext [bm] g g' ∧ Ob g' bm (matC B) ∧ SoundM m B ∧ GrowM A B ∧ (∀ i' j, i' < i → i' < j → DoneP m B c i' j) ∧ ∀ j, j ≤ 11 → t' j = t j) ?_ (heardL m c).length _ _ ?_
  · rintro n u g1 ⟨i, B, u12, hi, x, ob1, hs1, hg1, hd1, fr⟩
    have u6 : u 6 = av := (fr 6 (by decide)).trans t6
    have u9 : u 9 = .ptr bm 0 := (fr 9 (by decide)).trans t9
    have u11 : u 11 = hv := (fr 11 (by decide)).trans t11
    refine Tells.prot fun Q2 hQ2 => ?_
    unfold L_precentorlaw25_TraceLine_23
    simp [u12, u11, (oh.ext x).len]
    refine Tells.cb (fun hc => ?_) (fun hc => ?_)
    · simp at hc
      have w : IntKind.i64.wrap ((i : Int) + 1) = i + 1 := wrap_id (by omega) (by omega)
      simp [J_precentorlaw25_TraceLine_24, u12, w]
      refine Tells.bind (tl_pair hX (i := i) (c := c) (bm := bm) (A := B) hc1 (oh.ext x) (oa.ext x) hl ha hc ob1 hs1 (by simp [u6]) (by simp [u9]) (by simp [u11]) (by simp [u12]) (by simp)) ?_
      rintro ⟨ex, t2⟩ g2 ⟨rfl, x2, ⟨C, ob2, hs2, hg2, hd2⟩, f2⟩
      have k12 : t2 12 = I i := (f2 12 (by decide)).trans (by simp [u12])
      simp [J_precentorlaw25_TraceLine_25, k12, w]
      refine Tells.ok (hQ2 _ _ (.inl ⟨rfl, n - 1, by omega, i + 1, C, by simp, by omega, x.trans x2, ob2, hs2, fun p q h => hg2 p q (hg1 p q h), fun i' j h1 h2 => ?_, fun z hz => ?_⟩))
      · by_cases q : i' = i
        · subst q; exact hd2 j h2
        · exact hg2.done (hd1 i' j (by omega) h2)
      · have : t2 z = _ := f2 z (by omega)
        simp only [upd]
        repeat rw [if_neg (by omega)]
        rw [this]
        simp only [upd]
        repeat rw [if_neg (by omega)]
        exact fr z hz
    · simp at hc
      refine Tells.ok (hQ2 _ _ (.inr ⟨by simp, rfl, x, ⟨B, ob1, hs1, hg1, fun i' j h2 => ?_⟩, fun z hz => ?_⟩))
      · by_cases q : i' < i
        · exact hd1 i' j q h2
        · intro x y hx _
          have := (List.getElem?_eq_some_iff.1 hx).1
          omega
      · simp only [upd]
        repeat rw [if_neg (by omega)]
        exact fr z hz
  · exact ⟨0, A, t12, by omega, .refl, ob, hs, fun _ _ h => h, fun i' j h => by omega, fun _ _ => rfl⟩

theorem tl_clients (hX : OnlyKnown X) {g : Heap} {v av : AVal} {m : List Mk} {bm : Nat} {t : T} (o : Sl mkR g v m) (oa : Sl idR g av (allF m)) (hl : m.length ≤ 100) (ha : (allF m).length ≤ 9) (ob : Ob g bm (matC fun _ _ => false))
    (t3 : t 3 = v) (t6 : t 6 = av) (t9 : t 9 = .ptr bm 0) (t10 : t 10 = I 1) :
    Tells (fun q => loopN (L_precentorlaw25_TraceLine_20 Try.prog (acallX Try.prog X q) q) q t g) fun z g' => z.1 = .exit 2 ∧ Ext [bm] g g' ∧ (∃ B, Ob g' bm (matC B) ∧ SoundM m B ∧ ∀ p q, EM m p q → B p q = true) ∧ ∀ j, j ≤ 9 → z.2 j = t j := by
  refine Tells.loop (fun n t' g' => ∃ (c : Nat) (B : Nat → Nat → Bool), t' 10 = I c ∧ 1 ≤ c ∧ c + n = 4 ∧ Ext [bm] g g' ∧ Ob g' bm (matC B) ∧ SoundM m B ∧ (∀ (c' : Int) i j, 1 ≤ c' → c' < c → i < j → DoneP m B c' i j) ∧ ∀ j, j ≤ 9 → t' j = t j) ?_ 3 _ _ ?_
  · rintro n u g1 ⟨c, B, u10, hc0, hcn, x, ob1, hs1, hd1, fr⟩
    have u3 : u 3 = v := (fr 3 (by decide)).trans t3
    have u6 : u 6 = av := (fr 6 (by decide)).trans t6
    have u9 : u 9 = .ptr bm 0 := (fr 9 (by decide)).trans t9
    refine Tells.prot fun Q2 hQ2 => ?_
    unfold L_precentorlaw25_TraceLine_20
    simp [u10]
    refine Tells.cb (fun hc => ?_) (fun hc => ?_)
    · simp at hc
      have w : IntKind.i64.wrap ((c : Int) + 1) = c + 1 := wrap_id (by omega) (by omega)
      simp [J_precentorlaw25_TraceLine_21, u3, u10]
      refine Tells.bind (trace_Heard hX (o.ext x) hl (c : Int)) ?_
      rintro hv g2 ⟨gh, x2⟩
      try simp
      refine Tells.bind (tl_row hX (c := (c : Int)) (bm := bm) (A := B) (by omega) gh.1 ((oa.ext x).ext x2) hl ha (ob1.e x2) hs1 (by simp [u6]) (by simp [u9]) (by simp) (by simp)) ?_
      rintro ⟨ex, t2⟩ g3 ⟨rfl, x3, ⟨C, ob3, hs3, hg3, hd3⟩, f3⟩
      have k10 : t2 10 = I c := (f3 10 (by decide)).trans (by simp [u10])
      simp [J_precentorlaw25_TraceLine_22, k10, w]
      refine Tells.ok (hQ2 _ _ (.inl ⟨rfl, n - 1, by omega, c + 1, C, by simp, by omega, by omega, (x.quiet x2).trans x3, ob3, hs3, fun c' i j h1 h2 h3 => ?_, fun z hz => ?_⟩))
      · by_cases q : c' = c
        · subst q; exact hd3 i j h3
        · exact hg3.done (hd1 c' i j h1 (by omega) h3)
      · have : t2 z = _ := f3 z (by omega)
        simp only [upd]
        repeat rw [if_neg (by omega)]
        rw [this]
        simp only [upd]
        repeat rw [if_neg (by omega)]
        exact fr z hz
    · simp at hc
      refine Tells.ok (hQ2 _ _ (.inr ⟨by simp, rfl, x, ⟨B, ob1, hs1, fun p q ⟨y, z, h1, h2, c', h3, h4, h5, h6, h7⟩ => ?_⟩, fun z hz => ?_⟩))
      · have := hd1 c' _ _ h3 (by omega) h7 y z (idx_at h5) (idx_at h6) rfl rfl
        have hn : (allF m).Nodup := nodup_ddF _
        rw [idxK_of hn h1, idxK_of hn h2] at this
        exact this
      · simp only [upd]
        repeat rw [if_neg (by omega)]
        exact fr z hz
  · exact ⟨1, fun _ _ => false, t10, by omega, by omega, .refl, ob, fun p q h => by simp at h, fun c' i j h1 h2 => by omega, fun _ _ => rfl⟩

/-! ### the closure -/

def SndR (m : List Mk) (A : Nat → Nat → Bool) : Prop := ∀ p q, A p q = true → Rch (EM m) p q
theorem tl_fw3 {g : Heap} {av : AVal} {m : List Mk} {bm k i N : Nat} {A : Nat → Nat → Bool} {t : T} (oa : Sl idR g av (allF m)) (hN : (allF m).length = N) (ha : N ≤ 9) (hk : k < N) (hi : i < N) (ob : Ob g bm (matC A)) (hs : SndR m A) (hv : ∀ p q, p < N → q < N → PK (EM m) k p q → A p q = true)
    (t6 : t 6 = av) (t9 : t 9 = .ptr bm 0) (t14 : t 14 = I k) (t15 : t 15 = I i) (t16 : t 16 = I 0) :
    Tells (fun q => loopN (L_precentorlaw25_TraceLine_17 Try.prog (acallX Try.prog X q) q) q t g) fun z g' => z.1 = .exit 12 ∧ Ext [bm] g g' ∧ (∃ B, Ob g' bm (matC B) ∧ SndR m B ∧ GrowM A B ∧ ∀ q, q < N → PK (EM m) (k + 1) i q → B i q = true) ∧ ∀ j, j ≤ 15 → z.2 j = t j := by
  refine Tells.loop (fun n t' g' => ∃ (j : Nat) (B : Nat → Nat → Bool), t' 16 = I j ∧ j + n = N ∧ Ext [bm] g g' ∧ Ob g' bm (matC B) ∧ SndR m B ∧ GrowM A B ∧ (∀ q, q < j → PK (EM m) (k + 1) i q → B i q = true) ∧ ∀ j, j ≤ 15 → t' j = t j) ?_ N _ _ ?_
  · rintro n u g1 ⟨j, B, u16, hj, x, ob1, hs1, hg1, hd1, fr⟩
    have u6 : u 6 = av := (fr 6 (by decide)).trans t6
    have u9 : u 9 = .ptr bm 0 := (fr 9 (by decide)).trans t9
    have u14 : u 14 = I k := (fr 14 (by decide)).trans t14
    have u15 : u 15 = I i := (fr 15 (by decide)).trans t15
    refine Tells.prot fun Q2 hQ2 => ?_
    unfold L_precentorlaw25_TraceLine_17
    simp [u16, u6, (oa.ext x).len, hN]
    refine Tells.cb (fun hc => ?_) (fun hc => ?_)
    · simp at hc
      have w : IntKind.i64.wrap ((j : Int) + 1) = j + 1 := wrap_id (by omega) (by omega)
      have rw_ : ∀ {a : Nat}, a < N → ixpR 30 30 (.ptr bm 0) (.int .i64 (a : Int)) = some (.ptr bm (a * 30)) := fun h => ix_row (by omega)
      have cl_ : ∀ {a b : Nat}, b < N → ixpR 30 1 (.ptr bm (a * 30)) (.int .i64 (b : Int)) = some (.ptr bm (a * 30 + b)) := fun h => ix_col (by omega)
      have at_ : ∀ {a b : Nat}, a < N → b < N → (matC B)[a * 30 + b]? = some (.bool (B a b)) := fun h1 h2 => mat_at B (by omega) (by omega)
      -- what is told of the place
      have fin : ∀ (v : Bool), v = (B i j || (B i k && B k j)) → ∀ (g6 : Heap), Ob g6 bm (matC (updM B i j v)) → Ext [bm] g1 g6 → ∀ t' : T, t' 16 = I j → (∀ z, z ≤ 15 → t' z = t z) → Tells (fun q => J_precentorlaw25_TraceLine_19 Try.prog (acallX Try.prog X q) q okK t' g6) Q2 := by
        intro v hv' g6 ob6 x6 t' e16 fr'
        simp [J_precentorlaw25_TraceLine_19, e16, w]
        have hgr : GrowM B (updM B i j v) := fun p q h => by
          unfold updM
          split
          · rename_i hh; rw [hh.1, hh.2] at h; rw [hv', h]; rfl
          · exact h
        refine Tells.ok (hQ2 _ _ (.inl ⟨rfl, n - 1, by omega, j + 1, updM B i j v, by simp, by omega, x.trans x6, ob6, ?_, fun p q h => hgr p q (hg1 p q h), fun q hq hp => ?_, fun z hz => ?_⟩))
        · intro p q h
          unfold updM at h
          split at h
          · rename_i hh
            rw [hh.1, hh.2]
            rw [hv', Bool.or_eq_true, Bool.and_eq_true] at h
            rcases h with h | h
            · exact hs1 _ _ h
            · exact (hs1 _ _ h.1).trans (hs1 _ _ h.2)
          · exact hs1 _ _ h
        · by_cases e : q = j
          · subst e
            unfold updM
            rw [if_pos ⟨rfl, rfl⟩, hv']
            rcases hp with h | h
            · rw [hg1 _ _ (hv i q hi (by omega) h)]; rfl
            · rw [hg1 _ _ (hv i k hi hk h.1), hg1 _ _ (hv k q hk (by omega) h.2)]; simp
          · exact hgr _ _ (hd1 q (by omega) hp)
        · simp only [upd]
          repeat rw [if_neg (by omega)]
          exact fr' z hz
      have hst : ∀ v : Bool, ∃ g6, stR 1 g1 (.ptr bm (i * 30 + j)) (.bool v) = .val aUndef g6 ∧ Ob g6 bm (matC (updM B i j v)) ∧ Ext [bm] g1 g6 := fun v => by
        obtain ⟨g6, s1, s2, s3⟩ := ob1.st (off := i * 30 + j) (n := 1) (v := .bool v) rfl rfl (by rw [mat_len]; omega)
        refine ⟨g6, s1, ?_, s3⟩
        rw [show (AVal.bool v).cells = [.bool v] from rfl, splice_set (by rw [mat_len]; omega), mat_set B (by omega) (by omega)] at s2
        exact s2
      have frU : ∀ (u' : T), (∀ z, z ≤ 15 → u' z = u z) → ∀ z, z ≤ 15 → u' z = t z := fun u' h z hz => (h z hz).trans (fr z hz)
      simp [J_precentorlaw25_TraceLine_18, u9, u15, u16, rw_ hi, cl_ (a := i) hc, ob1.1, at_ hi hc]
      cases h1 : B i j with
      | true =>
        obtain ⟨g6, s1, s2, s3⟩ := hst true
        simp [u9, u15, u16, rw_ hi, cl_ (a := i) hc, s1]
        exact fin true (by simp [h1]) g6 s2 s3 _ (by simp [u16]) (frU _ fun z hz => by simp only [upd]; repeat rw [if_neg (by omega)])
      | false =>
        simp [u9, u14, u15, u16, rw_ hi, cl_ (a := i) hk, ob1.1, at_ hi hk]
        cases h2 : B i k with
        | false =>
          obtain ⟨g6, s1, s2, s3⟩ := hst false
          simp [u9, u15, u16, rw_ hi, cl_ (a := i) hc, s1]
          exact fin false (by simp [h1, h2]) g6 s2 s3 _ (by simp [u16]) (frU _ fun z hz => by simp only [upd]; repeat rw [if_neg (by omega)])
        | true =>
          obtain ⟨g6, s1, s2, s3⟩ := hst (B k j)
          simp [u9, u14, u15, u16, rw_ hk, rw_ hi, cl_ (a := k) hc, cl_ (a := i) hc, ob1.1, at_ hk hc, s1]
          exact fin (B k j) (by simp [h1, h2]) g6 s2 s3 _ (by simp [u16]) (frU _ fun z hz => by simp only [upd]; repeat rw [if_neg (by omega)])
    · simp at hc
      refine Tells.ok (hQ2 _ _ (.inr ⟨by simp, rfl, x, ⟨B, ob1, hs1, hg1, fun q hq => hd1 q (by omega)⟩, fun z hz => ?_⟩))
      simp only [upd]
      repeat rw [if_neg (by omega)]
      exact fr z hz
  · exact ⟨0, A, t16, by omega, .refl, ob, hs, fun _ _ h => h, fun q h => by omega, fun _ _ => rfl⟩

theorem tl_fw2 {g : Heap} {av : AVal} {m : List Mk} {bm k N : Nat} {A : Nat → Nat → Bool} {t : T} (oa : Sl idR g av (allF m)) (hN : (allF m).length = N) (ha : N ≤ 9) (hk : k < N) (ob : Ob g bm (matC A)) (hs : SndR m A) (hv : ∀ p q, p < N → q < N → PK (EM m) k p q → A p q = true)
    (t6 : t 6 = av) (t9 : t 9 = .ptr bm 0) (t14 : t 14 = I k) (t15 : t 15 = I 0) :
    Tells (fun q => loopN (L_precentorlaw25_TraceLine_14 Try.prog (acallX Try.prog X q) q) q t g) fun z g' => z.1 = .exit 10 ∧ Ext [bm] g g' ∧ (∃ B, Ob g' bm (matC B) ∧ SndR m B ∧ ∀ p q, p < N → q < N → PK (EM m) (k + 1) p q → B p q = true) ∧ ∀ j, j ≤ 14 → z.2 j = t j := by
  refine Tells.loop (fun n t' g' => ∃ (i : Nat) (B : Nat → Nat → Bool), t' 15 = I i ∧ i + n = N ∧ Ext [bm] g g' ∧ Ob g' bm (matC B) ∧ SndR m B ∧ GrowM A B ∧ (∀ p q, p < i → q < N → PK (EM m) (k + 1) p q → B p q = true) ∧ ∀ j, j ≤ 14 → t' j = t j) ?_ N _ _ ?_
  · rintro n u g1 ⟨i, B, u15, hi, x, ob1, hs1, hg1, hd1, fr⟩
    have u6 : u 6 = av := (fr 6 (by decide)).trans t6
    have u9 : u 9 = .ptr bm 0 := (fr 9 (by decide)).trans t9
    have u14 : u 14 = I k := (fr 14 (by decide)).trans t14
    refine Tells.prot fun Q2 hQ2 => ?_
    unfold L_precentorlaw25_TraceLine_14
    simp [u15, u6, (oa.ext x).len, hN]
    refine Tells.cb (fun hc => ?_) (fun hc => ?_)
    · simp at hc
      have w : IntKind.i64.wrap ((i : Int) + 1) = i + 1 := wrap_id (by omega) (by omega)
      simp [J_precentorlaw25_TraceLine_15]
      refine Tells.bind (tl_fw3 (X := X) (i := i) (k := k) (bm := bm) (A := B) (oa.ext x) hN ha hk hc ob1 hs1 (fun p q h1 h2 h3 => hg1 _ _ (hv p q h1 h2 h3)) (by simp [u6]) (by simp [u9]) (by simp [u14]) (by simp [u15]) (by simp)) ?_
      rintro ⟨ex, t2⟩ g2 ⟨rfl, x2, ⟨C, ob2, hs2, hg2, hd2⟩, f2⟩
      have k15 : t2 15 = I i := (f2 15 (by decide)).trans (by simp [u15])
      simp [J_precentorlaw25_TraceLine_16, k15, w]
      refine Tells.ok (hQ2 _ _ (.inl ⟨rfl, n - 1, by omega, i + 1, C, by simp, by omega, x.trans x2, ob2, hs2, fun p q h => hg2 p q (hg1 p q h), fun p q h1 h2 h3 => ?_, fun z hz => ?_⟩))
      · by_cases e : p = i
        · subst e; exact hd2 q h2 h3
        · exact hg2 _ _ (hd1 p q (by omega) h2 h3)
      · have : t2 z = _ := f2 z (by omega)
        simp only [upd]
        repeat rw [if_neg (by omega)]
        rw [this]
        simp only [upd]
        repeat rw [if_neg (by omega)]
        exact fr z hz
    · simp at hc
      refine Tells.ok (hQ2 _ _ (.inr ⟨by simp, rfl, x, ⟨B, ob1, hs1, fun p q h1 => hd1 p q (by omega)⟩, fun z hz => ?_⟩))
      simp only [upd]
      repeat rw [if_neg (by omega)]
      exact fr z hz
  · exact ⟨0, A, t15, by omega, .refl, ob, hs, fun _ _ h => h, fun p q h => by omega, fun _ _ => rfl⟩

theorem tl_fw1 {g : Heap} {av : AVal} {m : List Mk} {bm N : Nat} {A : Nat → Nat → Bool} {t : T} (oa : Sl idR g av (allF m)) (hN : (allF m).length = N) (ha : N ≤ 9) (ob : Ob g bm (matC A)) (hs : SoundM m A) (hv : ∀ p q, EM m p q → A p q = true)
    (t6 : t 6 = av) (t9 : t 9 = .ptr bm 0) (t14 : t 14 = I 0) :
    Tells (fun q => loopN (L_precentorlaw25_TraceLine_11 Try.prog (acallX Try.prog X q) q) q t g) fun z g' => z.1 = .exit 8 ∧ Ext [bm] g g' ∧ (∃ B, Ob g' bm (matC B) ∧ ∀ p q, p < N → q < N → (B p q = true ↔ Rch (EM m) p q)) ∧ ∀ j, j ≤ 13 → z.2 j = t j := by
  refine Tells.loop (fun n t' g' => ∃ (k : Nat) (B : Nat → Nat → Bool), t' 14 = I k ∧ k + n = N ∧ Ext [bm] g g' ∧ Ob g' bm (matC B) ∧ SndR m B ∧ (∀ p q, p < N → q < N → PK (EM m) k p q → B p q = true) ∧ ∀ j, j ≤ 13 → t' j = t j) ?_ N _ _ ?_
  · rintro n u g1 ⟨k, B, u14, hk, x, ob1, hs1, hd1, fr⟩
    have u6 : u 6 = av := (fr 6 (by decide)).trans t6
    have u9 : u 9 = .ptr bm 0 := (fr 9 (by decide)).trans t9
    refine Tells.prot fun Q2 hQ2 => ?_
    unfold L_precentorlaw25_TraceLine_11
    simp [u14, u6, (oa.ext x).len, hN]
    refine Tells.cb (fun hc => ?_) (fun hc => ?_)
    · simp at hc
      have w : IntKind.i64.wrap ((k : Int) + 1) = k + 1 := wrap_id (by omega) (by omega)
      simp [J_precentorlaw25_TraceLine_12]
      refine Tells.bind (tl_fw2 (X := X) (k := k) (bm := bm) (A := B) (oa.ext x) hN ha hc ob1 hs1 hd1 (by simp [u6]) (by simp [u9]) (by simp [u14]) (by simp)) ?_
      rintro ⟨ex, t2⟩ g2 ⟨rfl, x2, ⟨C, ob2, hs2, hd2⟩, f2⟩
      have k14 : t2 14 = I k := (f2 14 (by decide)).trans (by simp [u14])
      simp [J_precentorlaw25_TraceLine_13, k14, w]
      refine Tells.ok (hQ2 _ _ (.inl ⟨rfl, n - 1, by omega, k + 1, C, by simp, by omega, x.trans x2, ob2, hs2, hd2, fun z hz => ?_⟩))
      have : t2 z = _ := f2 z (by omega)
      simp only [upd]
      repeat rw [if_neg (by omega)]
      rw [this]
      simp only [upd]
      repeat rw [if_neg (by omega)]
      exact fr z hz
    · simp at hc
      have : k = N := by omega
      subst this
      refine Tells.ok (hQ2 _ _ (.inr ⟨by simp, rfl, x, ⟨B, ob1, fun p q h1 h2 => ⟨hs1 p q, fun h => hd1 p q h1 h2 (PK.all (fun i j h => by rw [← hN]; exact h.lt) h)⟩⟩, fun z hz => ?_⟩))
      simp only [upd]
      repeat rw [if_neg (by omega)]
      exact fr z hz
  · exact ⟨0, A, t14, by omega, .refl, ob, fun p q h => .one (hs p q h), fun p q _ _ h => hv p q h, fun _ _ => rfl⟩
end
end Go.Proofs.Ytochkdifpgelmaa
