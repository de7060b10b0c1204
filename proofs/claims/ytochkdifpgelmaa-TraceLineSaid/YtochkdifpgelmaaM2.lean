/-
  Texts of a claim, merged: Trc5, Law25g.
-/
import Derived.Test.YtochkdifpgelmaaM1
set_option linter.unusedVariables false
set_option linter.unusedSimpArgs false
/-! What trace's Line tells. -/
namespace Go.Proofs.Ytochkdifpgelmaa
open Go.Ab

theorem set_mid {α : Type} {f : α → α} {A : List α} {i : Nat} {a : α} (h : A[i]? = some a) : ((A.take i).map f ++ A.drop i)[i]? = some a ∧ ((A.take i).map f ++ A.drop i).set i (f a) = (A.take (i + 1)).map f ++ A.drop (i + 1) := by
  have hc := (List.getElem?_eq_some_iff.1 h).1
  have hlen : ((A.take i).map f).length = i := by simp; omega
  have hdr : A.drop i = a :: A.drop (i + 1) := by
    rw [List.drop_eq_getElem_cons hc]
    rw [List.getElem?_eq_getElem hc] at h
    cases h; rfl
  constructor
  · rw [List.getElem?_append_right (by omega), hlen, hdr]; simp
  · rw [List.set_append_right _ _ (by omega), hlen, hdr, List.take_add_one, h]; simp

theorem twoEq {x y : Int × Int} : (y.1 == x.1 && y.2 == x.2) = decide (y = x) := by
  obtain ⟨a, b⟩ := x
  obtain ⟨c, d⟩ := y
  by_cases q1 : c = a <;> by_cases q2 : d = b <;> simp [q1, q2]

section
variable {X : XTab}
theorem cutL {h h1 g : Heap} {all ov : AVal} {vs : List AVal} {A : List (List (Int × Int))} {out : List (Int × Int)} {x : Int × Int} {bb : Nat} {t : T} (fam : Fam idR h g all vs A) (hl : A.length ≤ 100) (ob : Ob g bb (idC x)) (lo : ∀ b, b ∈ all.blks → b < h1.next) (lv : ∀ v, v ∈ vs → ∀ b, b ∈ v.blks → b < h1.next)
    (go : Gl idR h1 g ov out) (wo : Wr h1 g ov) (ex : Ext [] h g) (t110 : t 110 = all) (t111 : t 111 = I A.length) (t112 : t 112 = I 0) (t4 : t 4 = all) (t12 : t 12 = .ptr bb 0) :
    Tells (fun q => loopN (L_trace_Line_7 Try.prog (acallX Try.prog X q) q) q t g) fun z g' => z.1 = .exit 10 ∧ (∃ vs', Fam idR h g' all vs' (A.map (cutF x)) ∧ ∀ v, v ∈ vs' → ∀ b, b ∈ v.blks → b < h1.next) ∧ Gl idR h1 g' ov out ∧ Wr h1 g' ov ∧ Ext [] h g' ∧ (∀ d cs, Ob g d cs → Ob g' d cs) ∧ g'.next = g.next ∧ ∀ i, i ≤ 17 → z.2 i = t i := by
  refine Tells.loop (fun n t' g' => ∃ (i : Nat) (us : List AVal), t' 112 = I i ∧ i + n = A.length ∧ Fam idR h g' all us ((A.take i).map (cutF x) ++ A.drop i) ∧ (∀ v, v ∈ us → ∀ b, b ∈ v.blks → b < h1.next) ∧ Gl idR h1 g' ov out ∧ Wr h1 g' ov ∧ Ext [] h g' ∧ (∀ d cs, Ob g d cs → Ob g' d cs) ∧ g'.next = g.next ∧
    ∀ i, i ≤ 17 ∨ i = 110 ∨ i = 111 → t' i = t i) ?_ A.length _ _ ?_
  · rintro n u g1 ⟨i, us, u112, hi, fm, lu, go1, wo1, ex1, obs, nx, fr⟩
    have u110 : u 110 = all := (fr 110 (by decide)).trans t110
    have u111 : u 111 = I A.length := (fr 111 (by decide)).trans t111
    have u4 : u 4 = all := (fr 4 (by decide)).trans t4
    have u12 : u 12 = .ptr bb 0 := (fr 12 (by decide)).trans t12
    have ob1 := obs _ _ ob
    refine Tells.prot fun Q2 hQ2 => ?_
    unfold L_trace_Line_7
    simp [u112, u111]
    refine Tells.cb (fun hc => ?_) (fun hc => ?_)
    · simp at hc
      obtain ⟨a, hy⟩ : ∃ a, A[i]? = some a := ⟨_, List.getElem?_eq_getElem hc⟩
      obtain ⟨hat, hset⟩ := set_mid (f := cutF x) hy
      have w : IntKind.i64.wrap ((i : Int) + 1) = i + 1 := wrap_id (by omega) (by omega)
      obtain ⟨v, b1, p, B, hv, q1, q2, q3, gv, wv⟩ := fm.at hat
      have same : cutF x a = a → (A.take i).map (cutF x) ++ A.drop i = (A.take (i + 1)).map (cutF x) ++ A.drop (i + 1) := fun e => by
        rw [← hset, e, set_self hat]
      simp [J_trace_Line_8, u112, u110, q1, q2, q3, gv.1.len]
      cases a with
      | nil =>
        simp [J_trace_Line_9, u112, w]
        refine Tells.ok (hQ2 _ _ (.inl ⟨rfl, n - 1, by omega, i + 1, us, by simp, by omega, by rw [← same rfl]; exact fm, lu, go1, wo1, ex1, obs, nx, fun j hj => ?_⟩))
        simp only [upd]
        repeat rw [if_neg (by omega)]
        exact fr j hj
      | cons z r =>
        obtain ⟨b3, p3, B3, r1, r2, r3, r4, r5, _⟩ := id_at gv.1 (i := 0) (x := z) rfl
        have r1' : ixsR 2 v (.int .i64 0) = some (.ptr b3 p3) := r1
        have hpos : (0 : Int) < ((r.length : Int) + 1) := by omega
        have oe := ob1.1
        simp only [idC] at oe
        simp [hpos, r1', r2, r3, r4, u12, oe, aBin_eql2 two30]
        by_cases hzx : z = x
        · subst hzx
          have hcut : cutF z (z :: r) = (z :: r).drop 1 := by simp [cutF]
          obtain ⟨v', s1, s2, s3⟩ := gl_dropI (n := 2) (lo := 1) gv rfl (by simp)
          have s1' : slcR 2 v (some (.int .i64 1)) none none = some v' := s1
          obtain ⟨b4, p4, g2, m1, m2, m3, m4, m5, m6, m7⟩ := fm.cut id_flat hv s2 s3
          cases q1.symm.trans m1
          rw [← hcut, hset] at m3
          simp [u4, s1', q1, m2, J_trace_Line_9, u112, w]
          refine Tells.ok (hQ2 _ _ (.inl ⟨rfl, n - 1, by omega, i + 1, us.set i v', by simp, by omega, m3, fun v2 hv2 b hb => ?_, ?_, ?_, m4 _ ex1, fun d cs o => m5 d cs (obs d cs o), by rw [m7.next]; exact nx, fun j hj => ?_⟩))
          · rcases List.mem_or_eq_of_mem_set hv2 with k | k
            · exact lu v2 k b hb
            · rw [k, s3] at hb; exact lu v (List.mem_of_getElem? hv) b hb
          · refine go1.extC id_flat m7 (Apart.of fun c hc' => ?_)
            have k1 := (wo1 c hc').1
            have k2 := root_le g1 b1
            have k3 := lo b1 m6
            omega
          · intro c hc'
            obtain ⟨w1, w2, w3⟩ := wo1 c hc'
            refine ⟨?_, by rw [m7.n0]; exact w2, by rw [m7.next]; exact w3⟩
            unfold Heap.root
            rw [m7.cls]
            exact w1
          · simp only [upd]
            repeat rw [if_neg (by omega)]
            exact fr j hj
        · have hzx' : (z.1 == x.1 && z.2 == x.2) = false := by rw [twoEq]; simpa using hzx
          have hcut : cutF x (z :: r) = z :: r := by simp [cutF, hzx]
          have hne : ¬ (z.1 = x.1 ∧ z.2 = x.2) := fun q => hzx (Prod.ext q.1 q.2)
          simp [hzx', hne, J_trace_Line_9, u112, w]
          refine Tells.ok (hQ2 _ _ (.inl ⟨rfl, n - 1, by omega, i + 1, us, by simp, by omega, by rw [← same hcut]; exact fm, lu, go1, wo1, ex1, obs, nx, fun j hj => ?_⟩))
          simp only [upd]
          repeat rw [if_neg (by omega)]
          exact fr j hj
    · simp at hc
      refine Tells.ok (hQ2 _ _ (.inr ⟨by simp, rfl, ⟨us, ?_, lu⟩, go1, wo1, ex1, obs, nx, fun j hj => ?_⟩))
      · rw [List.take_of_length_le (by omega), List.drop_of_length_le (by omega)] at fm
        simpa using fm
      · simp only [upd]
        rw [if_neg (by omega)]
        exact fr j (.inl hj)
  · exact ⟨0, vs, by simp [t112], by omega, by simpa using fam, lv, go, wo, ex, fun _ _ o => o, rfl, fun _ _ => rfl⟩

theorem cut_len (x : Int × Int) (a : List (Int × Int)) : (cutF x a).length ≤ a.length := by
  cases a with
  | nil => simp [cutF]
  | cons y r => simp only [cutF]; split <;> simp
theorem trace_Line (hX : OnlyKnown X) {h : Heap} {v : AVal} {l : List Mk} (o : Sl mkR h v l) (hl : l.length ≤ 100) : Tells (fun q => acallX Try.prog X q F_trace_Line [v] h) fun r h' =>
    ∃ ov, r = .tup [ov, .bool (lineF (rowsF l)).isSome] ∧ Sl idR h' ov ((lineF (rowsF l)).getD []) ∧ Ext [] h h' := by
  refine R_trace_Line _ (hX _ _ rfl) ?_
  refine Tells.prot fun Q' hQ => ?_
  unfold S_trace_Line
  simp
  refine Tells.bind (trace_rows hX o hl) ?_
  rintro all h1 ⟨⟨vs, fam⟩, x1⟩
  have hR := rowsF_len l
  have hrl : ∀ c, c ∈ rowsF l → c.length ≤ 100 := fun c hc => Nat.le_trans (row_len hc) hl
  have hK : (ddF (rowsF l).flatten).length ≤ 10000 := by
    refine Nat.le_trans (ddF_len _) ?_
    have : ∀ R : List (List (Int × Int)), (∀ c, c ∈ R → c.length ≤ 100) → R.flatten.length ≤ R.length * 100 := by
      intro R
      induction R with
      | nil => intro _; simp
      | cons a R ih =>
        intro hc
        have h1 := hc a (by simp)
        have h2 := ih fun c hcc => hc c (by simp [hcc])
        simp only [List.flatten_cons, List.length_append, List.length_cons]
        omega
    have := this _ hrl
    omega
  have hres : lineG (rowsF l).flatten (ddF (rowsF l).flatten).length (rowsF l) [] = lineF (rowsF l) := rfl
  generalize rowsF l = R at *
  have orr := fam.rd
  obtain ⟨m0, x2⟩ := Mp.make (K := kTwo Try.prog 30 two30) h1
  have nx : h1.next < (h1.new true []).next := m0.ob.lt
  simp [orr.len]
  refine Tells.bind (heardO (b := h1.next) (orr.ext x2) (by omega) hrl m0 (by simp) (by simp) (by simp) (by simp)) ?_
  rintro ⟨ex, t0⟩ h2 ⟨rfl, mh, x3, f0⟩
  have k4 : t0 4 = all := (f0 4 (by decide)).trans (by simp)
  have k5 : t0 5 = .mp h1.next := (f0 5 (by decide)).trans (by simp)
  have x13 : Ext [] h1 h2 := x2.then x3 (by simp)
  have blt : ∀ b, b ∈ all.blks → b < h1.next := fun b hb => (fam.wr b hb).2.2
  have vlt : ∀ v, v ∈ vs → ∀ b, b ∈ v.blks → b < h1.next := fun v hv b hb => by
    obtain ⟨i, hi⟩ := List.mem_iff_getElem?.1 hv
    exact fam.fi.lt hi b hb
  have fam2 := fam.e x13
  simp [J_trace_Line_0]
  refine Tells.bind (Tells.loop (fun n t g => ∃ (A : List (List (Int × Int))) (out : List (Int × Int)) (us : List AVal), t 4 = all ∧ t 5 = .mp h1.next ∧ out.length + n = (ddF R.flatten).length ∧ Mp (kTwo Try.prog 30 two30) g h1.next (ddF R.flatten) (occ R.flatten) ∧ Fam idR h g all us A ∧ A.length ≤ 100 ∧
      (∀ v, v ∈ us → ∀ b, b ∈ v.blks → b < h1.next) ∧ Gl idR h1 g (t 10) out ∧ Wr h1 g (t 10) ∧ Ext [] h g ∧ h1.next < g.next ∧ lineG R.flatten n A out = lineF R)
    (Q := fun p g => Ext [] h g ∧ ((p.1 = .exit 4 ∧ ∃ out, lineF R = some out ∧ Sl idR g (p.2 10) out) ∨ (p.1 = .ret ∧ lineF R = none ∧ p.2 2 = .nils ∧ p.2 3 = .bool false))) ?_ (ddF R.flatten).length _ _ ?_) ?_
  · rintro n t g ⟨A, out, us, t4, t5, hn, M, fm, hA, lu, go, wo, x, hgt, hres⟩
    refine Tells.prot fun Q2 hQ2 => ?_
    unfold L_trace_Line_2
    simp [go.1.len, t5, M.len]
    refine Tells.cb (fun hc => ?_) (fun hc => ?_)
    · simp at hc
      obtain ⟨n, rfl⟩ : ∃ k, n = k + 1 := ⟨n - 1, by omega⟩
      simp only [lineG] at hres
      obtain ⟨mn, y1⟩ := Mp.make (K := kTwo Try.prog 30 two30) g
      have lt1 : g.next < (g.new true []).next := mn.ob.lt
      simp [J_trace_Line_3]
      refine Tells.new fun g1 bb ob y2 l2 => ?_
      have fm1 := (fm.e y1).e y2
      have orr1 := fm1.rd
      have hlen := fm1.rd.len
      simp [t4, hlen]
      refine Tells.bind (nextL (b := g.next) orr1 hA (mn.e y2) (by simp) (by simp) (by simp) (by simp)) ?_
      rintro ⟨ex, u⟩ g2 ⟨rfl, mn2, y3, f1⟩
      have u4 : u 4 = all := (f1 4 rfl).trans (by simp [t4])
      have u5 : u 5 = .mp h1.next := (f1 5 rfl).trans (by simp [t5])
      have u11 : u 11 = .mp g.next := (f1 11 rfl).trans (by simp)
      have u12 : u 12 = .ptr bb 0 := (f1 12 rfl).trans (by simp)
      have u13 : u 13 = .bool false := (f1 13 rfl).trans (by simp)
      have nm : ∀ z, z ∈ [g.next] → g1.isM z = true ∨ g1.next ≤ z := fun z hz => by simp at hz; subst hz; exact .inl (mn.e y2).ob.2.1
      have fm2 := fm1.ext y3 nm
      have M2 := ((M.e y1).e y2).ext y3 (by simp; omega)
      have ob2 := ob.ext y3 (by simp; omega)
      have go2 := ((go.e y1).e y2).extO y3 nm
      have wo2 := ((wo.ext y1).ext y2).ext y3
      have x02 := ((x.trans y1).trans y2).then y3 (by simp; have := x.next; omega)
      simp [J_trace_Line_4, u4, fm2.rd.len]
      refine Tells.bind (bestL hX (bn := g.next) (bh := h1.next) (bb := bb) (y0 := (0, 0)) fm2.rd hA mn2 M2 ob2 (by omega) (by omega) (by simp) (by simp) (by simp) (by simp [u11]) (by simp [u5]) (by simp [u12]) (by simp [u13])) ?_
      rintro ⟨ex, w⟩ g3 ⟨rfl, y4, w13, ⟨y, oby, hby⟩, f2⟩
      have w4 : w 4 = all := (f2 4 (by decide)).trans (by simp [u4])
      have w5 : w 5 = .mp h1.next := (f2 5 (by decide)).trans (by simp [u5])
      have w10 : w 10 = t 10 := (f2 10 (by decide)).trans (by simp; exact (f1 10 rfl).trans (by simp))
      have w12 : w 12 = .ptr bb 0 := (f2 12 (by decide)).trans (by simp [u12])
      have nm4 : ∀ z, z ∈ [bb] → g2.isM z = true ∨ g2.next ≤ z := fun z hz => by simp at hz; subst hz; exact .inl ob2.2.1
      have fm3 := fm2.ext y4 nm4
      have M3 := M2.ext y4 (by simp; omega)
      have go3 := go2.extO y4 nm4
      have wo3 := wo2.ext y4
      have x03 := x02.then y4 (by simp; have := x.next; omega)
      have w13' : w 13 = .bool (bestG (okF R.flatten A) none A).isSome := w13
      cases hb : bestG (okF R.flatten A) none A with
      | none =>
        rw [hb] at hres w13'
        simp [J_trace_Line_5, w13']
        exact Tells.ok (hQ2 _ _ (.inr ⟨by simp, x03, .inr ⟨rfl, hres.symm, by simp, by simp⟩⟩))
      | some b =>
        have := hby b hb
        subst this
        rw [hb] at hres w13'
        have oe := oby.1
        simp only [idC] at oe
        simp [J_trace_Line_5, w13', J_trace_Line_6, w10, w12, oe]
        have hol : out.length < 2 ^ 33 := by omega
        have h13 : h1.next ≤ g3.next := by have := y1.next; have := y2.next; have := y3.next; have := y4.next; omega
        refine Tells.app1W (r := idR) (c := [I y.1, I y.2]) (x := y) go3 wo3 (by rfl) (by rfl) (by rfl) (by rfl) (by rfl) hol (by decide) h13 fun ov2 g4 go4 wo4 y5 y5' z5 => ?_
        have own : ∀ b, b ∈ (t 10).blks → h1.next ≤ b := fun b hb => Nat.le_trans (wo3 b hb).1 (root_le g3 b)
        have fm4 := fm3.extD y5 (fun b hb hbo => by have := own b hbo; have := blt b hb; omega) (fun v hv b hb hbo => by have := own b hbo; have := lu v hv b hb; omega)
        have nob : ∀ d cs, Ob g3 d cs → d ∉ (t 10).blks := fun d cs od => go3.1.ob od
        have ob4 := oby.ext y5 (nob _ _ oby)
        have M4 := M3.ext y5 (nob _ _ M3.ob)
        have x04 := x03.then y5 (fun b hb => .inr (by have := own b hb; have := x1.next; omega))
        simp [w4, fm4.rd.len]
        refine Tells.bind (cutL (h1 := h1) (x := y) (bb := bb) fm4 hA ob4 blt lu go4 wo4 x04 (by simp) (by simp) (by simp) (by simp [w4]) (by simp [w12])) ?_
        rintro ⟨ex, w2⟩ g5 ⟨rfl, ⟨us2, fm5, lu5⟩, go5, wo5, x05, obs, nx5, f3⟩
        have w24 : w2 4 = all := (f3 4 (by decide)).trans (by simp [w4])
        have w25 : w2 5 = .mp h1.next := (f3 5 (by decide)).trans (by simp [w5])
        have w210 : w2 10 = ov2 := (f3 10 (by decide)).trans (by simp)
        simp
        refine Tells.ok (hQ2 _ _ (.inl ⟨rfl, n, by omega, A.map (cutF y), out ++ [y], us2, w24, w25, by simp; omega, ⟨obs _ _ M4.ob, M4.nd, M4.out⟩, fm5, by simpa using hA, lu5, by simpa [w210] using go5, by simpa [w210] using wo5, x05, by have := y1.next; have := y2.next; have := y3.next; have := y4.next; have := y5.next; omega, hres⟩))
    · simp at hc
      have : n = 0 := by omega
      subst this
      simp only [lineG] at hres
      exact Tells.ok (hQ2 _ _ (.inr ⟨by simp, x, .inl ⟨rfl, out, hres.symm, by simpa using go.1⟩⟩))
  · exact ⟨R, [], vs, by simp [k4], by simp [k5], by simp, mh, fam2, by omega, vlt, by simpa using Gl.nil, fun b hb => by simp [AVal.blks] at hb, x1.trans x13, by have := x3.next; omega, hres⟩
  · rintro ⟨ex, t⟩ g ⟨x, ⟨rfl, out, ho, so⟩ | ⟨rfl, ho, t2, t3⟩⟩
    · simp [J_trace_Line_1]
      exact Tells.ok (hQ _ _ ⟨t 10, by simp [ho], by simpa [ho] using so, x⟩)
    · have t2' : t 2 = .nils := t2
      have t3' : t 3 = .bool false := t3
      simp [t2', t3']
      exact Tells.ok (hQ _ _ ⟨.nils, by simp [ho], by simpa [ho] using Sl.nil, x⟩)
end
end Go.Proofs.Ytochkdifpgelmaa

/-! TraceLine. -/
namespace Go.Proofs.Ytochkdifpgelmaa
open Go.Ab

/-- Of the first so many: does one stand in a ring? -/
def ringB (A : Nat → Nat → Bool) : Nat → Bool
  | 0 => false
  | n + 1 => ringB A n || A n n
theorem ringB_iff (A : Nat → Nat → Bool) : ∀ n, ringB A n = true ↔ ∃ i, i < n ∧ A i i = true
  | 0 => by simp [ringB]
  | n + 1 => by
    simp only [ringB, Bool.or_eq_true, ringB_iff A n]
    constructor
    · rintro (⟨i, h1, h2⟩ | h)
      · exact ⟨i, by omega, h2⟩
      · exact ⟨n, by omega, h⟩
    · rintro ⟨i, h1, h2⟩
      by_cases e : i = n
      · subst e; exact .inr h2
      · exact .inl ⟨i, by omega, h2⟩

theorem ob_cast {h : Heap} {b : Nat} {z z' : List AVal} (o : Ob h b z) (e : z = z') : Ob h b z' := e ▸ o
section
variable {X : XTab}
theorem tl_look (hX : OnlyKnown X) {g : Heap} {av rv : AVal} {all row : Ids} {bm i : Nat} {ok : Bool} {A : Nat → Nat → Bool} {z : Int × Int} {t : T} (oa : Sl idR g av all) (ha : all.length ≤ 9) (orr : Sl idR g rv row) (hr : row.length ≤ 1000) (ob : Ob g bm (matC A)) (hi : all[i]? = some z)
    (hrow : ok = true → z ∈ row ∧ ∀ j y, all[j]? = some y → A i j = true → posF row z < posF row y)
    (t4 : t 4 = rv) (t5 : t 5 = .bool ok) (t6 : t 6 = av) (t9 : t 9 = .ptr bm 0) (t18 : t 18 = I i) (t19 : t 19 = I 0) :
    Tells (fun q => loopN (L_precentorlaw25_TraceLine_8 Try.prog (acallX Try.prog X q) q) q t g) fun w g' => w.1 = .exit 16 ∧ Ext [] g g' ∧ ∀ j, j ≤ 18 → w.2 j = t j := by
  have hil := (List.getElem?_eq_some_iff.1 hi).1
  refine Tells.loop (fun n t' g' => ∃ j : Nat, t' 19 = I j ∧ j + n = all.length ∧ Ext [] g g' ∧ ∀ j, j ≤ 18 → t' j = t j) ?_ all.length _ _ ?_
  · rintro n u g1 ⟨j, u19, hj, x, fr⟩
    have u4 : u 4 = rv := (fr 4 (by decide)).trans t4
    have u5 : u 5 = .bool ok := (fr 5 (by decide)).trans t5
    have u6 : u 6 = av := (fr 6 (by decide)).trans t6
    have u9 : u 9 = .ptr bm 0 := (fr 9 (by decide)).trans t9
    have u18 : u 18 = I i := (fr 18 (by decide)).trans t18
    refine Tells.prot fun Q2 hQ2 => ?_
    unfold L_precentorlaw25_TraceLine_8
    simp [u19, u6, (oa.ext x).len]
    by_cases hc : j < all.length
    · cases ok with
      | false =>
        simp [hc, u5]
        refine Tells.ok (hQ2 _ _ (.inr ⟨by simp, rfl, x, fun w hw => ?_⟩))
        simp only [upd]
        repeat rw [if_neg (by omega)]
        exact fr w hw
      | true =>
        obtain ⟨hz, hlt⟩ := hrow rfl
        obtain ⟨y, hy⟩ : ∃ y, all[j]? = some y := ⟨_, List.getElem?_eq_getElem hc⟩
        obtain ⟨b, p, B, q1, q2, q3, q4, q5, q6, q7⟩ := id_at (oa.ext x) hi
        have w : IntKind.i64.wrap ((j : Int) + 1) = j + 1 := wrap_id (by omega) (by omega)
        have hge : ¬ posF row z - 1 < 0 := by rw [posF_in hz]; omega
        simp [hc, u5, J_precentorlaw25_TraceLine_9, u4, u6, u18, q1, q2, q3, q4]
        refine Tells.cbE (at_cb hX (orr.ext x) hr z) ?_
        rintro _ g2 ⟨rfl, x2⟩
        have x02 := x.trans x2
        obtain ⟨b', p', B', r1, r2, r3, r4, r5, r6, r7⟩ := id_at (oa.ext x02) hi
        cases q1.symm.trans r1
        have o2 := (ob.e x02).1
        simp [hge, u18, u19, u9, ix_row (b := bm) (show i < 30 by omega), ix_col (b := bm) (i := i) (show j < 30 by omega), o2, mat_at A (show i < 30 by omega) (show j < 30 by omega)]
        cases hA : A i j with
        | false =>
          simp [J_precentorlaw25_TraceLine_10, u19, w]
          refine Tells.ok (hQ2 _ _ (.inl ⟨rfl, n - 1, by omega, j + 1, by simp, by omega, x02, fun w hw => ?_⟩))
          simp only [upd]
          repeat rw [if_neg (by omega)]
          exact fr w hw
        | true =>
          have hl2 := hlt j y hy hA
          simp [u4, u6, u18, q1, r2, r3, r4]
          refine Tells.cbE (at_cb hX (orr.ext x02) hr z) ?_
          rintro _ g3 ⟨rfl, x3⟩
          have x03 := x02.trans x3
          obtain ⟨c1, d1, C1, s1, s2, s3, s4, s5, s6, s7⟩ := id_at (oa.ext x02) hy
          obtain ⟨c2, d2, C2, v1, v2, v3, v4, v5, v6, v7⟩ := id_at (oa.ext x03) hy
          cases s1.symm.trans v1
          simp [u4, u6, u19, s1, v2, v3, v4, s2, s3, s4]
          refine Tells.cbE (at_cb hX (orr.ext x03) hr y) ?_
          rintro _ g4 ⟨rfl, x4⟩
          have hnge : ¬ posF row y - 1 ≤ posF row z - 1 := by omega
          simp [hnge, J_precentorlaw25_TraceLine_10, u19, w]
          have hx4 := x03.trans x4
          first
          | refine Tells.ok (hQ2 _ _ (.inl ⟨rfl, n - 1, by omega, j + 1, by simp, by omega, hx4, fun w hw => ?_⟩))
            simp only [upd]
            repeat rw [if_neg (by omega)]
            exact fr w hw
          | skip
    · simp [hc]
      refine Tells.ok (hQ2 _ _ (.inr ⟨by simp, rfl, x, fun w hw => ?_⟩))
      simp only [upd]
      repeat rw [if_neg (by omega)]
      exact fr w hw
  · exact ⟨0, t19, by omega, .refl, fun _ _ => rfl⟩

theorem tl_end (hX : OnlyKnown X) {g : Heap} {av rv : AVal} {all row : Ids} {bm : Nat} {ok : Bool} {A : Nat → Nat → Bool} {t : T} (oa : Sl idR g av all) (ha : all.length ≤ 9) (orr : Sl idR g rv row) (hr : row.length ≤ 1000) (ob : Ob g bm (matC A))
    (hrow : ok = true → ∀ i z, all[i]? = some z → z ∈ row ∧ ∀ j y, all[j]? = some y → A i j = true → posF row z < posF row y)
    (t4 : t 4 = rv) (t5 : t 5 = .bool ok) (t6 : t 6 = av) (t9 : t 9 = .ptr bm 0) (t17 : t 17 = .bool false) (t18 : t 18 = I 0) :
    Tells (fun q => loopN (L_precentorlaw25_TraceLine_5 Try.prog (acallX Try.prog X q) q) q t g) fun w g' => w.1 = .exit 14 ∧ Ext [] g g' ∧ w.2 17 = .bool (ringB A all.length) ∧ ∀ j, j ≤ 16 → w.2 j = t j := by
  refine Tells.loop (fun n t' g' => ∃ i : Nat, t' 18 = I i ∧ i + n = all.length ∧ Ext [] g g' ∧ t' 17 = .bool (ringB A i) ∧ ∀ j, j ≤ 16 → t' j = t j) ?_ all.length _ _ ?_
  · rintro n u g1 ⟨i, u18, hi, x, u17, fr⟩
    have u4 : u 4 = rv := (fr 4 (by decide)).trans t4
    have u5 : u 5 = .bool ok := (fr 5 (by decide)).trans t5
    have u6 : u 6 = av := (fr 6 (by decide)).trans t6
    have u9 : u 9 = .ptr bm 0 := (fr 9 (by decide)).trans t9
    refine Tells.prot fun Q2 hQ2 => ?_
    unfold L_precentorlaw25_TraceLine_5
    simp [u18, u6, (oa.ext x).len]
    refine Tells.cb (fun hc => ?_) (fun hc => ?_)
    · simp at hc
      obtain ⟨z, hz⟩ : ∃ z, all[i]? = some z := ⟨_, List.getElem?_eq_getElem hc⟩
      have w : IntKind.i64.wrap ((i : Int) + 1) = i + 1 := wrap_id (by omega) (by omega)
      have o1 := (ob.e x).1
      have fin : ∀ t' : T, t' 4 = rv → t' 5 = .bool ok → t' 6 = av → t' 9 = .ptr bm 0 → t' 18 = I i → t' 19 = I 0 → t' 17 = .bool (ringB A (i + 1)) → (∀ j, j ≤ 16 → t' j = t j) →
          Tells (fun q => (loopN (L_precentorlaw25_TraceLine_8 Try.prog (acallX Try.prog X q) q) q t' g1).bind (lpK (blkK 16 (blkK 15 (sqK (J_precentorlaw25_TraceLine_7 Try.prog (acallX Try.prog X q) q okK) okK))))) Q2 := by
        intro t' e4 e5 e6 e9 e18 e19 e17 fr'
        refine Tells.bind (tl_look hX (i := i) (z := z) (A := A) (bm := bm) (oa.ext x) ha (orr.ext x) hr (ob.e x) hz (fun h => hrow h i z hz) e4 e5 e6 e9 e18 e19) ?_
        rintro ⟨ex, t2⟩ g2 ⟨rfl, x2, f2⟩
        have k18 : t2 18 = I i := (f2 18 (by decide)).trans e18
        have k17 : t2 17 = _ := (f2 17 (by decide)).trans e17
        simp [J_precentorlaw25_TraceLine_7, k18, w]
        refine Tells.ok (hQ2 _ _ (.inl ⟨rfl, n - 1, by omega, i + 1, by simp, by omega, x.trans x2, by simp [k17], fun j hj => ?_⟩))
        simp only [upd]
        repeat rw [if_neg (by omega)]
        exact (f2 j (by omega)).trans (fr' j hj)
      simp [J_precentorlaw25_TraceLine_6, u17]
      cases hb : ringB A i with
      | true =>
        simp
        refine fin _ (by simp [u4]) (by simp [u5]) (by simp [u6]) (by simp [u9]) (by simp [u18]) (by simp) (by simp [ringB, hb]) fun j hj => ?_
        simp only [upd]
        repeat rw [if_neg (by omega)]
        exact fr j hj
      | false =>
        simp [u18, u9, ix_row (b := bm) (show i < 30 by omega), ix_col (b := bm) (i := i) (show i < 30 by omega), o1, mat_at A (show i < 30 by omega) (show i < 30 by omega)]
        refine fin _ (by simp [u4]) (by simp [u5]) (by simp [u6]) (by simp [u9]) (by simp [u18]) (by simp) (by simp [ringB, hb]) fun j hj => ?_
        simp only [upd]
        repeat rw [if_neg (by omega)]
        exact fr j hj
    · simp at hc
      have : i = all.length := by omega
      subst this
      refine Tells.ok (hQ2 _ _ (.inr ⟨by simp, rfl, x, by simp [u17], fun j hj => ?_⟩))
      simp only [upd]
      repeat rw [if_neg (by omega)]
      exact fr j hj
  · exact ⟨0, t18, by omega, .refl, t17, fun _ _ => rfl⟩

theorem line_agree {m : List Mk} (h : (lineF (rowsF m)).isSome = true) : agreeR (rowsF m) = true := by
  have hn : ∀ a, a ∈ rowsF m → a.Nodup := fun a ha => nodup_row ha
  obtain ⟨res, hres⟩ := Option.isSome_iff_exists.1 h
  rw [agreeR_iff]
  intro c d x y hx hy hx' hy' hlt
  have row : ∀ e : Int, ∀ z, z ∈ firF m e → firF m e ∈ rowsF m := fun e z hz => by
    rw [rowsF, List.mem_map]
    refine ⟨e, ?_, rfl⟩
    rw [firF, mem_ddF, mem_heardL'] at hz
    obtain ⟨k, k1, k2, k3, k4⟩ := hz
    exact mem_cliF.2 ⟨k, k1, k2, k3⟩
  have h1 := line_rank hn hres (x := x) (y := y) ⟨firF m d, row d x hx', hx', hy', hlt⟩
  rcases Nat.lt_trichotomy (idxK (firF m c) x) (idxK (firF m c) y) with q | q | q
  · exact q
  · have := idxK_inj hx hy q
    subst this; omega
  · have := line_rank hn hres (x := y) (y := x) ⟨firF m c, row c x hx, hy, hx, q⟩
    omega

theorem traceLine_ (hX : OnlyKnown X) (hk : X F_precentorlaw25_known [] = some (.bool true)) {h : Heap} {v1 : AVal} {xs1 : List Int} (r1 : RawInts h v1 xs1) : Tells (fun q => acallX Try.prog X q F_precentorlaw25_TraceLine [v1] h) fun v _ => v = .bool true := by
  refine R_precentorlaw25_TraceLine _ (hX _ _ rfl) ?_
  refine Tells.prot fun Q' hQ => ?_
  unfold S_precentorlaw25_TraceLine
  simp
  refine Tells.bind (law_marks hX (odd := false) r1 (.inl (Sl.nil (r := mkR)))) ?_
  rintro mv g0 ⟨gm, wm, x1⟩
  have hml := marksL_len xs1 [] false
  have hbd := fun k hk => mkN_in (xs := xs1) (m := k) hk
  generalize marksL xs1 [] false = m at *
  have hl : m.length ≤ 100 := by omega
  have o := gm.1
  have hn : ∀ a, a ∈ rowsF m → a.Nodup := fun a ha => nodup_row ha
  have hall : (allF m).length ≤ 9 := allF_len fun k hk => ⟨(hbd k hk).2.1, (hbd k hk).2.2⟩
  have hcb : ∀ k, k ∈ m → 1 ≤ k.c ∧ k.c ≤ 3 := fun k hk => (hbd k hk).1
  try simp
  refine Tells.bind (trace_Line hX o hl) ?_
  rintro _ g1 ⟨rv, rfl, orow, y1⟩
  -- what the line tells
  have hag := fun h => line_agree (m := m) h
  have hring := line_ring hn
  have hrow : (lineF (rowsF m)).isSome = true → (∀ z, z ∈ allF m → z ∈ (lineF (rowsF m)).getD []) ∧ (∀ x y, aheadR (rowsF m) x y → idxK ((lineF (rowsF m)).getD []) x < idxK ((lineF (rowsF m)).getD []) y) ∧ ((lineF (rowsF m)).getD []).length = (allF m).length := fun h => by
    obtain ⟨res, hres⟩ := Option.isSome_iff_exists.1 h
    obtain ⟨h1, h2, h3, h4⟩ := lineF_some hn hres
    rw [hres]
    refine ⟨fun z hz => (h2 z).2 (mem_flat.2 hz), fun x y k => line_rank hn hres k, ?_⟩
    have a1 := nodup_sub_len (l := res) (m := allF m) h1 fun z hz => mem_flat.1 ((h2 z).1 hz)
    have a2 := nodup_sub_len (l := allF m) (m := res) (nodup_ddF _) fun z hz => (h2 z).2 (mem_flat.2 hz)
    simp only [Option.getD_some]
    omega
  have hno : (lineF (rowsF m)).isSome = false → (lineF (rowsF m)).getD [] = [] := fun h => by
    cases hq : lineF (rowsF m) with
    | none => rfl
    | some r => rw [hq] at h; cases h
  generalize (lineF (rowsF m)).isSome = ok at *
  generalize (lineF (rowsF m)).getD [] = row at *
  try simp
  refine Tells.bind (known_X hk g1) ?_
  rintro _ g1 ⟨rfl, rfl⟩
  have rest : ∀ (g2 : Heap) (t : T), Ext [] g1 g2 → t 3 = mv → t 4 = rv → t 5 = .bool ok → Tells (fun q => J_precentorlaw25_TraceLine_0 Try.prog (acallX Try.prog X q) q (retK Try.prog [.tmp 2]) t g2) Q' := by
    intro g2 t y2 t3 t4 t5
    have o2 := (o.ext y1).ext y2
    unfold J_precentorlaw25_TraceLine_0
    simp
    refine Tells.bind (tl_all hX o2 hl (by simp [t3]) (by simp) (by simp)) ?_
    rintro ⟨ex, u⟩ g3 ⟨rfl, y3, ga, f3⟩
    have ga : Gl idR g2 g3 (u 6) (allF m) := ga
    have u3 : u 3 = mv := (f3 3 (by decide)).trans (by simp [t3])
    have u4 : u 4 = rv := (f3 4 (by decide)).trans (by simp [t4])
    have u5 : u 5 = .bool ok := (f3 5 (by decide)).trans (by simp [t5])
    simp
    unfold J_precentorlaw25_TraceLine_1
    refine Tells.new fun g4 bm ob y4 l4 => ?_
    have ob : Ob g4 bm (matC fun _ _ => false) := ob_cast ob (by kernel_rfl)
    simp
    refine Tells.bind (tl_clients hX (bm := bm) ((o2.ext y3).ext y4) (ga.1.ext y4) hl hall ob (by simp [u3]) (by simp) (by simp) (by simp)) ?_
    rintro ⟨ex, w⟩ g5 ⟨rfl, y5, ⟨B, ob5, hs5, hv5⟩, f5⟩
    have w4 : w 4 = rv := (f5 4 (by decide)).trans (by simp [u4])
    have w5 : w 5 = .bool ok := (f5 5 (by decide)).trans (by simp [u5])
    have w6 : w 6 = u 6 := (f5 6 (by decide)).trans (by simp)
    have w9 : w 9 = .ptr bm 0 := (f5 9 (by decide)).trans (by simp)
    have oa5 := (ga.1.ext y4).ext y5
    simp [J_precentorlaw25_TraceLine_2]
    refine Tells.bind (tl_fw1 (X := X) (bm := bm) (A := B) oa5 rfl hall ob5 hs5 hv5 (by simp [w6]) (by simp [w9]) (by simp)) ?_
    rintro ⟨ex, w'⟩ g6 ⟨rfl, y6, ⟨C, ob6, hC⟩, f6⟩
    have k4 : w' 4 = rv := (f6 4 (by decide)).trans (by simp [w4])
    have k5 : w' 5 = .bool ok := (f6 5 (by decide)).trans (by simp [w5])
    have k6 : w' 6 = u 6 := (f6 6 (by decide)).trans (by simp [w6])
    have k9 : w' 9 = .ptr bm 0 := (f6 9 (by decide)).trans (by simp [w9])
    have or6 := ((((orow.ext y2).ext y3).ext y4).ext y5).ext y6
    have hrl : row.length ≤ 1000 := by
      cases hok : ok with
      | true => have := (hrow hok).2.2; omega
      | false => rw [hno hok]; simp
    simp [J_precentorlaw25_TraceLine_3]
    refine Tells.bind (tl_end hX (bm := bm) (ok := ok) (A := C) (oa5.ext y6) hall or6 hrl ob6 (fun hok i z hz => ?_) (by simp [k4]) (by simp [k5]) (by simp [k6]) (by simp [k9]) (by simp) (by simp)) ?_
    · obtain ⟨c1, c2, c3⟩ := hrow hok
      have hzr := c1 z (List.mem_of_getElem? hz)
      refine ⟨hzr, fun j y hy hA => ?_⟩
      have hyr := c1 y (List.mem_of_getElem? hy)
      have li := (List.getElem?_eq_some_iff.1 hz).1
      have lj := (List.getElem?_eq_some_iff.1 hy).1
      have := rch_rank (f := fun z => idxK row z) (fun a b k => c2 a b k) (EM.rch' hz hy ((hC i j li lj).1 hA))
      rw [posF_in hzr, posF_in hyr]
      omega
    · rintro ⟨ex, w3⟩ g7 ⟨rfl, y7, e17, f7⟩
      have e17 : w3 17 = .bool (ringB C (allF m).length) := e17
      have e4 : w3 4 = rv := (f7 4 (by decide)).trans (by simp [k4])
      have e5 : w3 5 = .bool ok := (f7 5 (by decide)).trans (by simp [k5])
      have e6 : w3 6 = u 6 := (f7 6 (by decide)).trans (by simp [k6])
      have hrb : ringB C (allF m).length = !ok := by
        cases hok : ok with
        | true =>
          cases hb : ringB C (allF m).length with
          | false => rfl
          | true =>
            obtain ⟨i, hi, hA⟩ := (ringB_iff _ _).1 hb
            obtain ⟨z, hz⟩ : ∃ z, (allF m)[i]? = some z := ⟨_, List.getElem?_eq_getElem hi⟩
            have := EM.rch' hz hz ((hC i i hi hi).1 hA)
            have := hring.2 ⟨z, this⟩
            rw [hok] at this; cases this
        | false =>
          obtain ⟨x, hx⟩ := hring.1 hok
          have hin : x ∈ allF m := by
            have : ∀ {a b : Int × Int}, Rch (aheadR (rowsF m)) a b → b ∈ allF m := fun k => by
              cases k with
              | one q => exact (EM.of hcb q).2.1
              | step _ q => exact (EM.of hcb q).2.1
            exact this hx
          exact (ringB_iff _ _).2 ⟨_, idxK_lt hin, (hC _ _ (idxK_lt hin) (idxK_lt hin)).2 (EM.rch hcb hx)⟩
      rw [hrb] at e17
      have lr := (or6.ext y7).len
      have la := ((oa5.ext y6).ext y7).len
      simp [J_precentorlaw25_TraceLine_4, e5, e17, Try.underlying4]
      cases hok : ok with
      | true =>
        have := (hrow hok).2.2
        simp [e4, e6, lr, la, this]
        exact Tells.ok (hQ _ _ rfl)
      | false =>
        simp
        exact Tells.ok (hQ _ _ rfl)
  cases hok : ok with
  | true =>
    simp [hok]
    refine Tells.bind (trace_Agree hX (o.ext y1) hl) ?_
    rintro _ g2 ⟨rfl, y2⟩
    rw [hag hok]
    simp
    exact rest g2 _ y2 (by simp) (by simp) (by simp [hok])
  | false =>
    have hr := hno hok
    have lr := orow.len
    rw [hr] at lr
    simp [hok, lr]
    exact rest g1 _ .refl (by simp) (by simp) (by simp [hok])
end
end Go.Proofs.Ytochkdifpgelmaa
