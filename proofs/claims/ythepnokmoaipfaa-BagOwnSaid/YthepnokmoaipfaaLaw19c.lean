/-
  Law BagOwn: the walk.
-/
import Derived.Test.YthepnokmoaipfaaBag2
import Derived.Test.YthepnokmoaipfaaLaw19a
set_option linter.unusedVariables false
set_option linter.unusedSimpArgs false
namespace Go.Proofs.Ythepnokmoaipfaa
open Go.Ab

theorem u8_wrap (n : Int) : ∃ y : UInt8, IntKind.u8.wrap n = (y.toNat : Nat) := ⟨byteOf n, by rw [wrap_u8, byteOf_eq]⟩

/-- A byte of a datagram is written. -/
theorem pokeB {h : Heap} {f t v : AVal} {d : Dgram × Nat} (k : dgT.rep h [f, t, v] d) {i : Nat} (hi : i < d.1.bytes.length) (n : Int) :
    ∃ b p h', ixsR 1 v (.int .i64 (i : Int)) = some (.ptr b p) ∧ h.isM b = false ∧ h.root b = d.2 ∧ stR 1 h (.ptr b p) (.int .u8 (IntKind.u8.wrap n)) = .val aUndef h' ∧ ExtC b h h' := by
  obtain ⟨v', e, s, w, l⟩ := k
  obtain rfl : v = v' := by simp at e; exact e.2.2
  obtain ⟨b, p, B, c, q1, q2, _, q3, q4, q5, q6⟩ := pokeC (r := byteR) (n := 1) rfl (fun q => q) s (fun b hb => (w b hb).2) (List.getElem?_eq_getElem hi)
  obtain ⟨y, hy⟩ := u8_wrap n
  have hc : c.length = 1 := byteR.len q5
  obtain ⟨a, rfl⟩ : ∃ a, c = [a] := by
    match c, hc with
    | [a], _ => exact ⟨a, rfl⟩
  obtain ⟨h', z1, z2, _⟩ := q6 0 (.int .u8 (IntKind.u8.wrap n)) y (by omega) rfl rfl (by show [_] = [_]; rw [hy])
  exact ⟨b, p, h', q3, q2, (w b (by rw [q1]; simp)).1, by simpa using z1, z2⟩

/-- .. and read. -/
theorem readB {h : Heap} {f t v : AVal} {d : Dgram × Nat} (k : dgT.rep h [f, t, v] d) : lenL v = some (I d.1.bytes.length) ∧ ∀ (i : Nat) y, d.1.bytes[i]? = some y → ∃ b p B, ixsR 1 v (.int .i64 (i : Int)) = some (.ptr b p) ∧ h.get b = some B ∧ B[p]? = some (.int .u8 y.toNat) := by
  obtain ⟨v', e, s, w, l⟩ := k
  obtain rfl : v = v' := by simp at e; exact e.2.2
  refine ⟨s.len, fun i y hy => ?_⟩
  obtain ⟨b, p, B, c, q1, q2, q3⟩ := s.at (n := 1) rfl (i := (i : Int)) (by omega) (by simpa using hy)
  have q3 : c = [.int .u8 y.toNat] := q3
  subst q3
  exact ⟨b, p, B, q1, q2.get, q2.cell0 (by simp)⟩
theorem dgT_form {h : Heap} {cs : List AVal} {d : Dgram × Nat} (k : dgT.rep h cs d) : ∃ v, cs = [I d.1.from_, I d.1.to_, v] ∧ v.one = true := by obtain ⟨v, e, s, _⟩ := k; exact ⟨v, e, s.one⟩
theorem wr_apart {hK h : Heap} {v : AVal} {b : Nat} (w : Wr hK h v) (hb : h.root b < hK.next) : Apart h b v := Apart.of fun c hc q => by have := (w c hc).1; omega
theorem sl_apart {α : Type} {r : Rp α} {h : Heap} {v : AVal} {xs : List α} {b n : Nat} (o : Sl r h v xs) (hv : ∀ c, c ∈ v.blks → c < n) (hb : n ≤ h.root b) : Apart h b v := Apart.of fun c hc q => by have := hv c hc; have := root_le h c; omega
/-- A row's element: what its cells are. -/
theorem elemT {h : Heap} {v : AVal} {l : List (Dgram × Nat)} {d : Dgram × Nat} {i : Nat} (o : Sl dgT h v l) (hd : l[i]? = some d) : ∃ b p B u, ixsR 3 v (.int .i64 (i : Int)) = some (.ptr b p) ∧ h.get b = some B ∧ B[p]? = some (I d.1.from_) ∧ B[p + 2]? = some u ∧ dgT.rep h [I d.1.from_, I d.1.to_, u] d := by
  obtain ⟨b, p, B, c, q1, q2, q3⟩ := o.at (n := 3) rfl (i := (i : Int)) (by omega) (by simpa using hd)
  obtain ⟨u, rfl, hu⟩ := dgT_form q3
  refine ⟨b, p, B, u, q1, q2.get, q2.cell0 (by simp), ?_, q3⟩
  have := q2.cell (k := 2) (by simp)
  simpa using this

section
variable {X : XTab}

/-- The bag as it is told. -/
structure Own (h : Heap) (bp cp : Nat) (s : AVal) (hM : Heap) (l : List (Dgram × Nat)) (n : Int) (x : UInt8) : Prop where
  ob : Ob h bp [s]
  oc : Ob h cp [.nils]
  ne : bp ≠ cp
  sl : Sl dgT h s l
  wr : Wr hM h s
  le : hM.next ≤ h.next
  all : ∀ d, d ∈ l → d.1 = ⟨n, 0, [1, x]⟩ ∧ d.2 < h.next
theorem Own.extC {h h' : Heap} {bp cp b : Nat} {s : AVal} {hM : Heap} {l : List (Dgram × Nat)} {n : Int} {x : UInt8} (o : Own h bp cp s hM l n x) (e : ExtC b h h') (hb : h.isM b = false) (a : Apart h b s) (hr : ∀ d, d ∈ l → h.root b ≠ d.2) : Own h' bp cp s hM l n x :=
  ⟨o.ob.extC e hb, o.oc.extC e hb, o.ne, slT_extC e o.sl a hr, fun c hc => by
    obtain ⟨w1, w2, w3⟩ := o.wr c hc
    refine ⟨?_, by rw [e.n0]; exact w2, by rw [e.next]; exact w3⟩
    unfold Heap.root
    rw [e.cls]
    exact w1, by rw [e.next]; exact o.le, fun d hd => by rw [e.next]; exact o.all d hd⟩
theorem Own.ext {h h' : Heap} {bp cp : Nat} {s : AVal} {hM : Heap} {l : List (Dgram × Nat)} {n : Int} {x : UInt8} (o : Own h bp cp s hM l n x) (e : Ext [] h h') : Own h' bp cp s hM l n x :=
  ⟨o.ob.e e, o.oc.e e, o.ne, o.sl.ext e, o.wr.ext e, Nat.le_trans o.le e.next, fun d hd => ⟨(o.all d hd).1, Nat.lt_of_lt_of_le (o.all d hd).2 e.next⟩⟩

theorem own2 (hX : OnlyKnown X) {t : T} {g : Heap} {n : Int} {x : UInt8} {bp cp xp rA rB : Nat} {s u : AVal} {hM : Heap} {dA dB : Dgram} (t0 : t 0 = I n) (t1 : t 1 = .int .u8 x.toNat) (t5 : t 5 = .ptr bp 0) (t6 : t 6 = .ptr cp 0) (t9 : t 9 = .ptr xp 0)
    (o : Own g bp cp s hM [(dB, rB)] n x) (ox : Ob g xp [I n, I 0, u]) (kx : dgT.rep g [I n, I 0, u] (⟨n, 0, [1, x]⟩, rA)) (hA : rA < hM.next) (hB : rB ≠ rA) :
    Tells (fun m => J_precentorlaw19_BagOwn_2 Try.prog (acallX Try.prog X m) m (retK Try.prog [.tmp 4]) t g) fun v _ => v = .bool true := by
  obtain ⟨b, p, h1, q1, q2, q3, q4, x1⟩ := pokeB kx (i := 1) (by simp) ((x.toNat : Int) + 3)
  have o1 := o.extC x1 q2 (wr_apart o.wr (by rw [q3]; exact hA)) (fun d hd => by simp at hd; subst hd; rw [q3]; exact Ne.symm hB)
  have hd := (o.all (dB, rB) (by simp)).1
  simp only at hd
  subst hd
  have q1 : ixsR 1 u (.int .i64 1) = some (.ptr b p) := q1
  unfold J_precentorlaw19_BagOwn_2
  simp [t9, ox.1, t1, q1, q4, t5]
  refine Tells.bind (bag_Take0 hX (R := dgT) rfl o1.ob o1.sl o1.wr (by simp) o1.le) ?_
  rintro _ h2 ⟨c, s2, rfl, hc, k2, ob2, sl2, wr2, x2⟩
  obtain ⟨uy, rfl, uy1⟩ := dgT_form k2
  have oc2 := o1.oc.ext x2 (by
    intro q
    rcases List.mem_cons.1 q with q | q
    · exact o1.ne q.symm
    · exact o1.sl.ob o1.oc q)
  try simp
  refine Tells.newSt (by rfl) (by rfl) (by rfl) (by simp [uy1]) fun h3 yp oy x3 l3 => ?_
  obtain ⟨r1, r2⟩ := readB (dgT.ext k2 x3)
  obtain ⟨b2, p2, B2, i1, i2, i3⟩ := r2 1 x (by simp)
  have i1 : ixsR 1 uy (.int .i64 1) = some (.ptr b2 p2) := i1
  simp [oy.1, r1, i1, i2, i3, t1, t0, t5]
  refine Tells.bind (bag_LenG hX (ob2.e x3) (sl2.ext x3)) ?_
  rintro _ h4 ⟨rfl, rfl⟩
  simp [t6]
  refine Tells.bind (bag_LenG hX (R := dgT) (oc2.e x3) Sl.nil) ?_
  rintro _ h5 ⟨rfl, rfl⟩
  simp
  exact Tells.ok rfl

theorem own1 (hX : OnlyKnown X) {t : T} {g : Heap} {n : Int} {x : UInt8} {bp cp rA rB m : Nat} {s v : AVal} {hM : Heap} {dA dB : Dgram} {e0 e1 : Dgram × Nat} (t0 : t 0 = I n) (t1 : t 1 = .int .u8 x.toNat) (t5 : t 5 = .ptr bp 0) (t6 : t 6 = .ptr cp 0) (t8 : t 8 = v)
    (o : Own g bp cp s hM [(dA, rA), (dB, rB)] n x) (sv : Sl dgT g v [e0, e1]) (he : e0.1 = ⟨n, 0, [1, x]⟩) (hs : ∀ c, c ∈ s.blks → c < m) (hm : m ≤ e0.2) (hA : rA < hM.next) (hAm : rA < m) (hBm : rB < m) (hB : rB ≠ rA) :
    Tells (fun m => J_precentorlaw19_BagOwn_1 Try.prog (acallX Try.prog X m) m (retK Try.prog [.tmp 4]) t g) fun v _ => v = .bool true := by
  obtain ⟨be, pe, Be, u, j1, j2, j3, j4, k0⟩ := elemT sv (i := 0) (d := e0) (by simp)
  obtain ⟨b, p, h1, q1, q2, q3, q4, x1⟩ := pokeB k0 (i := 1) (by rw [he]; simp) ((x.toNat : Int) + 2)
  have o1 := o.extC x1 q2 (sl_apart o.sl hs (by rw [q3]; exact hm)) (fun d hd => by
    rw [q3]
    simp at hd
    rcases hd with rfl | rfl <;> simp <;> omega)
  have hd := (o.all _ (List.mem_cons_self ..)).1
  simp only at hd
  subst hd
  have q1 : ixsR 1 u (.int .i64 1) = some (.ptr b p) := q1
  have j1 : ixsR 3 v (.int .i64 0) = some (.ptr be pe) := j1
  unfold J_precentorlaw19_BagOwn_1
  simp [t8, j1, j2, j4, t1, q1, q4, t5]
  refine Tells.bind (bag_Take0 hX (R := dgT) rfl o1.ob o1.sl o1.wr (by simp) o1.le) ?_
  rintro _ h2 ⟨c, s2, rfl, hc, k2, ob2, sl2, wr2, x2⟩
  obtain ⟨ux, rfl, ux1⟩ := dgT_form k2
  have oc2 := o1.oc.ext x2 (by
    intro q
    rcases List.mem_cons.1 q with q | q
    · exact o1.ne q.symm
    · exact o1.sl.ob o1.oc q)
  try simp
  refine Tells.newSt (by rfl) (by rfl) (by rfl) (by simp [ux1]) fun h3 xp ox x3 l3 => ?_
  have k3 := dgT.ext k2 x3
  obtain ⟨r1, r2⟩ := readB k3
  obtain ⟨b2, p2, B2, i1, i2, i3⟩ := r2 1 x (by simp)
  have i1 : ixsR 1 ux (.int .i64 1) = some (.ptr b2 p2) := i1
  simp [ox.1, r1, i1, i2, i3, t1]
  refine own2 hX (dA := ⟨n, 0, [1, x]⟩) (dB := dB) (rB := rB) (rA := rA) (hM := hM) (bp := bp) (cp := cp) (s := s2) (u := ux) (xp := xp) (by simp [t0]) (by simp [t1]) (by simp [t5]) (by simp [t6]) (by simp) ?_ (by simpa using ox) k3 hA hB
  refine ⟨ob2.e x3, oc2.e x3, o1.ne, sl2.ext x3, wr2.ext x3, ?_, fun d hd => ?_⟩
  · have := o1.le; have := x2.next; have := x3.next; omega
  · simp at hd; subst hd
    have := o1.all (dB, rB) (by simp)
    refine ⟨this.1, ?_⟩
    have h := this.2
    have := x2.next; have := x3.next; simp only at h ⊢; omega

theorem own0 (hX : OnlyKnown X) {t : T} {g : Heap} {n : Int} {x : UInt8} {bp cp dp rD rA rB : Nat} {s u : AVal} {hM : Heap} {dA dB : Dgram} (t0 : t 0 = I n) (t1 : t 1 = .int .u8 x.toNat) (t5 : t 5 = .ptr bp 0) (t6 : t 6 = .ptr cp 0) (t7 : t 7 = .ptr dp 0)
    (o : Own g bp cp s hM [(dA, rA), (dB, rB)] n x) (ox : Ob g dp [I n, I 0, u]) (kx : dgT.rep g [I n, I 0, u] (⟨n, 0, [1, x]⟩, rD)) (hA : rA < hM.next) (hD : rD < rA) (hB : hM.next ≤ rB) :
    Tells (fun m => J_precentorlaw19_BagOwn_0 Try.prog (acallX Try.prog X m) m (retK Try.prog [.tmp 4]) t g) fun v _ => v = .bool true := by
  obtain ⟨b, p, h1, q1, q2, q3, q4, x1⟩ := pokeB kx (i := 1) (by simp) ((x.toNat : Int) + 1)
  have o1 := o.extC x1 q2 (wr_apart o.wr (by rw [q3]; simp only; omega)) (fun d hd => by
    rw [q3]
    simp at hd
    rcases hd with rfl | rfl <;> simp <;> omega)
  have q1 : ixsR 1 u (.int .i64 1) = some (.ptr b p) := q1
  unfold J_precentorlaw19_BagOwn_0
  simp [t7, ox.1, t1, q1, q4, t5]
  refine Tells.bind (bag_AllT hX o1.ob o1.sl (by simp) (fun d hd => by rw [(o1.all d hd).1]; exact ⟨by unfold Dgram.ok; simp, by simp⟩)) ?_
  rintro v h2 ⟨es, gv, em, er, x2⟩
  obtain ⟨e0, e1, rfl⟩ : ∃ e0 e1, es = [e0, e1] := by
    have hl := congrArg List.length em
    simp at hl
    match es, hl with
    | [a, b], _ => exact ⟨a, b, rfl⟩
  simp at em
  have h0 : e0.1 = ⟨n, 0, [1, x]⟩ := by rw [em.1]; exact (o1.all (dA, rA) (by simp)).1
  have h1' : e1.1 = ⟨n, 0, [1, x]⟩ := by rw [em.2]; exact (o1.all (dB, rB) (by simp)).1
  obtain ⟨b0, p0, B0, u0, j1, j2, j3, j4, k0⟩ := elemT gv.1 (i := 0) (d := e0) (by simp)
  obtain ⟨b1, p1, B1, u1, l1, l2, l3, l4, k1⟩ := elemT gv.1 (i := 1) (d := e1) (by simp)
  obtain ⟨r1, r2⟩ := readB k0
  obtain ⟨r3, _⟩ := readB k1
  obtain ⟨b2, p2, B2, i1, i2, i3⟩ := r2 1 x (by rw [h0]; simp)
  have i1 : ixsR 1 u0 (.int .i64 1) = some (.ptr b2 p2) := i1
  have j1 : ixsR 3 v (.int .i64 0) = some (.ptr b0 p0) := j1
  have l1 : ixsR 3 v (.int .i64 1) = some (.ptr b1 p1) := l1
  have len := gv.1.len
  have r1 : lenL u0 = some (I 2) := by rw [r1, h0]; rfl
  have r3 : lenL u1 = some (I 2) := by rw [r3, h1']; rfl
  simp [len, j1, j2, j4, l1, l2, l4, r1, r3, i1, i2, i3, t1]
  refine own1 hX (m := h1.next) (dA := dA) (dB := dB) (rA := rA) (rB := rB) (hM := hM) (bp := bp) (cp := cp) (s := s) (v := v) (by simp [t0]) (by simp [t1]) (by simp [t5]) (by simp [t6]) (by simp) (o1.ext x2) gv.1 h0 (fun c hc => (o1.sl.blk c hc).2) (er e0 (by simp)) hA (o1.all (dA, rA) (by simp)).2 (o1.all (dB, rB) (by simp)).2 (by omega)

theorem bagOwn_ (hX : OnlyKnown X) (hk : X F_precentorlaw19_known [] = none) (n : Int) (hn : In64 n) (x : UInt8) {h : Heap} :
    Tells (fun m => acallX Try.prog X m F_precentorlaw19_BagOwn [I n, .int .u8 x.toNat] h) fun a h' => a = .bool true := by
  refine R_precentorlaw19_BagOwn _ _ (hX _ _ rfl) ?_
  refine Tells.prot fun Q' hQ => ?_
  unfold S_precentorlaw19_BagOwn
  simp [bldR, fillR, splice]
  refine Tells.newSt (by rfl) (by rfl) (by rfl) (by rfl) fun h1 bp o1 x1 l1 => ?_
  try simp
  refine Tells.newSt (by rfl) (by rfl) (by rfl) (by rfl) fun h2 cp o2 x2 l2 => ?_
  try simp
  have hne : bp ≠ cp := by have := o1.lt; omega
  refine Tells.lit (r := byteR) (xs := [1, x]) (css := [[.int .u8 1], [.int .u8 x.toNat]]) (by rfl) ⟨rfl, rfl, trivial⟩ (by rfl) (by rfl) (by simp [bslR, fillR, splice]) fun v h3 g3 x3 bl3 => ?_
  simp [bldR, fillR, splice, g3.1.known, g3.1.cells]
  refine Tells.newSt (by rfl) (by rfl) (by rfl) (by simp [g3.1.one]) fun h4 dp o4 x4 l4 => ?_
  try simp
  refine Tells.bind (known19 hX hk h4) ?_
  rintro _ h5 ⟨rfl, x5⟩
  have hvb : ∀ c, c ∈ v.blks → c = h2.next := fun c hc => by rw [bl3] at hc; simpa using hc
  have hn3 : h2.next < h3.next := (g3.1.blk _ (by rw [bl3]; simp)).2
  have kx3 : dgT.rep h3 [I n, I 0, v] (⟨n, 0, [1, x]⟩, h3.root h2.next) := ⟨v, rfl, g3.1, fun c hc => by rw [hvb c hc]; exact ⟨rfl, by rw [x3.n0]; exact n0_le h2⟩, Nat.lt_of_le_of_lt (root_le h3 _) hn3⟩
  have kx5 := dgT.ext (dgT.ext kx3 x4) x5
  have o5 := o4.e x5
  have o5' : h5.get dp = some [I n, I 0, v] := by have := o5.1; simpa [g3.1.cells] using this
  simp [o5']
  refine Tells.lit (r := dgT) (xs := [(⟨n, 0, [1, x]⟩, h3.root h2.next)]) (css := [[I n, I 0, v]]) (by rfl) ⟨kx5, trivial⟩ (by rfl) (by simp) (bsl1_agg (by rfl) (by rfl)) fun v6 h6 g6 x6 bl6 => ?_
  try simp
  have x26 := ((x3.trans x4).trans x5).trans x6
  have ob6 := (o1.e x2).e x26
  refine Tells.bind (bag_Put1 hX (fun q => q) ob6 Sl.nil (by simp) g6.1 (by unfold Dgram.ok; simp) (by simp) fun hM xM => ⟨Gl.nil, fun b hb => by simp [AVal.blks] at hb, Nat.le_refl _⟩) ?_
  rintro _ h7 ⟨rfl, s7, rA, hM, ob7, a1, a2, a3, xM, g7, w7, x7, z7⟩
  simp
  refine Tells.bind (bag_Twice1 hX (d := (⟨n, 0, [1, x]⟩, rA)) (fun _ => hM) ob7 g7.1 (by simp) (by simp) (by unfold Dgram.ok; simp) (by simp) fun h1' hM' y1 yM => ⟨g7.e y1, w7.ext y1, by have := y1.next; have := yM.next; omega⟩) ?_
  rintro _ h8 ⟨rfl, s8, rB, hM', ob8, c1, c2, c3, xM', g8, w8, x8, z8⟩
  simp
  have oc8 := (((o2.e x26).ext x7 (by simp [AVal.blks]; exact fun q => hne q.symm)).ext x8 (by
    intro q
    rcases List.mem_cons.1 q with q | q
    · exact hne q.symm
    · exact g7.1.ob ((o2.e x26).ext x7 (by simp [AVal.blks]; exact fun q => hne q.symm)) q))
  have hdp : dp ≠ bp := by have := o1.lt; have := x2.next; have := x3.next; omega
  have on6 := o5.e x6
  have on7 := on6.ext x7 (by simp [AVal.blks]; exact hdp)
  have on8 := on7.ext x8 (by
    intro q
    rcases List.mem_cons.1 q with q | q
    · exact hdp q
    · exact g7.1.ob on7 q)
  have kx8 := dgT.ext (dgT.ext (dgT.ext kx5 x6) x7) x8
  have hr3 : h3.root h2.next < rA := by have := root_le h3 h2.next; have := x4.next; have := x5.next; have := x6.next; omega
  refine (own0 hX (dp := dp) (rD := h3.root h2.next) (dA := ⟨n, 0, [1, x]⟩) (dB := ⟨n, 0, [1, x]⟩) (rA := rA) (rB := rB) (hM := hM) (bp := bp) (cp := cp) (s := s8) (u := v) (n := n) (x := x) (by simp) (by simp) (by simp) (by simp) (by simp)
    ⟨ob8, oc8, hne, g8.1, w8, by have := x8.next; omega, fun d hd => ?_⟩ (by simpa [g3.1.cells] using on8) kx8 a2 hr3 (by omega)).mono fun v h q => hQ _ _ q
  simp at hd
  rcases hd with rfl | rfl
  · exact ⟨rfl, by have := x8.next; simp; omega⟩
  · exact ⟨rfl, by simp; omega⟩

end
end Go.Proofs.Ythepnokmoaipfaa
