/-
  What Pass tells, of a chain of two atoms.
-/
import Derived.Test.YtbnnkfbjnpmamaaSeq0
set_option linter.unusedVariables false
set_option linter.unusedSimpArgs false
namespace Go.Proofs.Ytbnnkfbjnpmamaa
open Go.Ab

section
variable {β : Type} {Q : β → Heap → Prop} {h : Heap} {call : Nat → FuncId → List AVal → Heap → Res AVal}
/-- append(s, x) to a row of one's own, the order being open -/
theorem app1WE {α : Type} {r : Rp α} {h0 : Heap} {xs : List α} {s v : AVal} {c z : List AVal} {x : α} {n by_ : Nat} {k : Nat → AVal → AVal → Heap → Res β} (g : Gl r h0 h s xs) (wr : Wr h0 h s) (hv : v.cells = c) (hk : v.known = true) (hx : r.rep h c x) (hn : r.n = n) (hz : z.length = n) (hl : xs.length < 2 ^ 33)
    (hby : by_ ≤ 2 ^ 12) (hle : h0.next ≤ h.next) (q : ∀ s' h', Gl r h0 h' s' (xs ++ [x]) → Wr h0 h' s' → Ext s.blks h h' → (∀ S, Ext S h0 h → Ext S h0 h') → (∀ b, b ∈ s'.blks → b ∈ s.blks ∨ h.next ≤ b) → Tells (fun m => k m (.sl h.next 0 1 1 n true) s' h') Q) :
    Tells (fun m => arbV (bslR n z 1 h [(0, n, v)]) fun a h2 => arbE (appR n by_ h2 s a) (call m) (k m a)) Q := by
  subst hv
  have hc : v.cells.length = n := by rw [← hn]; exact r.len hx
  obtain ⟨s', h', q1, q2, q3, q4, q5⟩ := g.app1 (by_ := by_) hx hn hl hby hle
  have e1 := Ext.new h false v.cells
  simp only [bsl1 hz hk hc, arbV_val, q1, arbE_val]
  exact q s' h' q2 (appR_wr q1 (wr.ext e1) (Nat.le_trans hle e1.next)) q3 q4 q5
end

section
variable {X : XTab}

theorem passStep (hX : OnlyKnown X) {Q : Ex × T → Heap → Prop} {h g : Heap} {t : T} {bs bm bn be i : Nat} {d0 d1 cur : Int} {w z : AVal} {zs : List (Int × Int)}
    (t0 : t 0 = .ptr bs 0) (t2 : t 2 = w) (t4 : t 4 = .ptr be 0) (hi : i < 2) (hcur : ([d0, d1] : List Int)[i]? = some cur) (hsm : 0 ≤ cur ∧ cur ≤ 100) (so : SeqO g bs bm bn d0 d1) (oe : Ob g be [I 0, I 0, I 0, I 0, I i, .nils, z]) (nb : be ≠ bs ∧ be ≠ bm ∧ be ≠ bn) (hbe : h.next ≤ be)
    (sw : Sl intR g w [0, 1]) (gz : Gl stR2 h g z zs) (wz : Wr h g z) (hzs : zs.length ≤ 3) (x : Ext [bn] h g)
    (hQ : ∀ (t' : T) g' z', t' 0 = t 0 → t' 2 = t 2 → t' 4 = t 4 → t' 6 = t 6 → t' 8 = t 8 → Ob g' bs [.sl bm 0 2 2 1 true, .sl bn 0 2 2 1 true] → Ob g' bm [.bool true, .bool true] → Ob g' bn (([I d0, I d1] : List AVal).set i (I (cur + 1))) → Ob g' be [I 0, I 0, I 0, I 0, I (i + 1), .nils, z'] →
      Gl stR2 h g' z' (zs ++ [((i : Int), cur + 1)]) → Wr h g' z' → Ext (bn :: be :: z.blks) g g' → Ext [bn] h g' → Q (.normal, t') g') :
    Tells (fun m => J_seq_Seq_Pass_3 Try.prog (acallX Try.prog X m) m okK t g) Q := by
  obtain ⟨nb1, nb2, nb3⟩ := nb
  have wi : IntKind.i64.wrap ((i : Int) + 1) = i + 1 := wrap_id (by omega) (by omega)
  have wc : IntKind.i64.wrap (cur + 1) = cur + 1 := wrap_id (by omega) (by omega)
  have hix : ixsR 1 (.sl bn 0 2 2 1 true) (.int .i64 (i : Int)) = some (.ptr bn i) := by
    simp only [ixsR]
    rw [if_pos ⟨by omega, by omega⟩]
    simp
  have hci : ([I d0, I d1] : List AVal)[i]? = some (I cur) := by
    have : i = 0 ∨ i = 1 := by omega
    rcases this with rfl | rfl <;> simp at hcur <;> simp [hcur]
  have hcs : (([I d0, I d1] : List AVal).set i (I (cur + 1)))[i]? = some (I (cur + 1)) := by
    rw [List.getElem?_set]; simp [hi]
  unfold J_seq_Seq_Pass_3
  simp [t2, t4, oe.1]
  refine Tells.bind (seq_has hX sw (a := (i : Int)) (by omega)) ?_
  rintro _ g ⟨rfl, rfl⟩
  simp [t0, nckR, so.s.1, t4, oe.1, hix, so.n.1, hci, wc]
  refine Tells.st1E so.n (by rfl) (by rfl) (by simpa using hi) fun g1 n1 x1 => ?_
  have os1 := so.s.ext x1 (by simpa using so.sn)
  have om1 := so.m.ext x1 (by simpa using so.mn)
  have oe1 := oe.ext x1 (by simpa using nb3)
  have hnz : ∀ b, b ∈ z.blks → b ∉ [bn] := fun b hb q => by simp at q; subst q; exact gz.1.ob so.n hb
  have gz1 := gz.ext x1 hnz
  have x01 := x.trans x1
  simp [t0, nckR, os1.1, t4, oe1.1, hix, n1.1, hcs, bldR, fillR, splice]
  refine app1WE gz1 (wz.ext x1) (by rfl) (by rfl) (show stR2.rep g1 [I (i : Int), I (cur + 1)] ((i : Int), cur + 1) from rfl) (by rfl) (by rfl) (by omega) (by decide) x01.next fun z2 g2 gz2 w2 x2 y2 q2 => ?_
  have x02 := y2 _ x01
  have oe2 := oe1.ext x2 (gz1.1.ob oe1)
  try simp [t4]
  refine Tells.st1E oe2 gz2.1.cells gz2.1.one (by simp) fun g3 oe3 x3 => ?_
  have oe3 : Ob g3 be [I 0, I 0, I 0, I 0, I i, .nils, z2] := by simpa using oe3
  simp [J_seq_Seq_Pass_4, t4, oe3.1, wi]
  refine Tells.st1 oe3 (by rfl) (by rfl) (by simp) fun g4 oe4 x4 => ?_
  have n1ne : bn ≠ be := Ne.symm nb3
  have x03 := (x02.then x3 (by simp; omega)).then x4 (by simp; omega)
  have gz3 := (gz2.ext x3 (fun b hb q => by simp at q; subst q; exact gz2.1.ob oe2 hb)).ext x4 (fun b hb q => by simp at q; subst q; exact gz2.1.ob oe2 hb)
  refine Tells.ok (hQ _ _ z2 (by simp) (by simp) (by simp) (by simp) (by simp) ?_ ?_ ?_ (by simpa using oe4) gz3 ((w2.ext x3).ext x4) ?_ x03)
  · exact ((os1.ext x2 (gz1.1.ob os1)).ext x3 (by simpa using Ne.symm nb1)).ext x4 (by simpa using Ne.symm nb1)
  · exact ((om1.ext x2 (gz1.1.ob om1)).ext x3 (by simpa using Ne.symm nb2)).ext x4 (by simpa using Ne.symm nb2)
  · exact ((n1.ext x2 (gz1.1.ob n1)).ext x3 (by simpa using n1ne)).ext x4 (by simpa using n1ne)
  · exact (((x1.mono (by simp)).trans (x2.mono (fun b hb => by simp [hb]))).trans (x3.mono (by simp))).trans (x4.mono (by simp))

theorem seq_Pass (hX : OnlyKnown X) {h : Heap} {bs bm bn : Nat} {c0 c1 n : Int} {st w : AVal} (so : SeqO h bs bm bn c0 c1) (hc0 : 0 ≤ c0 ∧ c0 ≤ 50) (hc1 : 0 ≤ c1 ∧ c1 ≤ 50) (sw : Sl intR h w [0, 1]) (ss : Sl stR2 h st [(9, n)]) :
    Tells (fun q => acallX Try.prog X q F_seq_Seq_Pass [.ptr bs 0, .agg [I 0, I 0, I 0, I 0, I 0, .nils, st], w] h) fun a h' => ∃ z, a = .tup [.agg [I 0, I 0, I 0, I 0, I 2, .nils, z], .bool true] ∧ Sl stR2 h' z [(9, n), (0, c0 + 1), (1, c1 + 1)] ∧ Wr h h' z ∧ SeqO h' bs bm bn (c0 + 1) (c1 + 1) ∧ Ext [bn] h h' := by
  refine R_seq_Seq_Pass _ _ _ (hX _ _ rfl) ?_
  refine Tells.prot fun Q' hQ => ?_
  have k1 := so.s.lt
  have k2 := so.m.lt
  have k3 := so.n.lt
  unfold S_seq_Seq_Pass
  simp
  refine Tells.box rfl rfl fun h1 be oe x1 l1 => ?_
  try simp
  refine Tells.new fun h2 bv ov x2 l2 => ?_
  have m1 := x1.next
  have m2 := x2.next
  have oe2 := oe.e x2
  have hev : be ≠ bv := by have := oe.lt; omega
  have app0 : ∀ g : Heap, appR 6 64 g .nils .nils = .val .nils g := fun g => by rfl
  simp [oe2.1, app0]
  refine Tells.st1 oe2 (by rfl) (by rfl) (by simp) fun h3 oe3 x3 => ?_
  have oe3 : Ob h3 be [I 0, I 0, I 0, I 0, I 0, .nils, st] := by simpa using oe3
  have x03 : Ext [] h h3 := (x1.trans x2).then x3 (by simp; omega)
  have ov3 := ov.ext x3 (by simpa using Ne.symm hev)
  simp [oe3.1]
  refine Tells.copy (r := stR2) (ss.ext x03) (by rfl) (by simp) (by decide) fun z h4 gz x4 wz => ?_
  have oe4 := oe3.e x4
  have ov4 := ov3.e x4
  have x04 := x03.trans x4
  try simp
  refine Tells.st1 oe4 gz.1.cells gz.1.one (by simp) fun h5 oe5 x5 => ?_
  have oe5 : Ob h5 be [I 0, I 0, I 0, I 0, I 0, .nils, z] := by simpa using oe5
  have ov5 := ov4.ext x5 (by simpa using Ne.symm hev)
  have x05 : Ext [] h h5 := x04.then x5 (by simp; omega)
  have gz5 : Gl stR2 h h5 z [(9, n)] := (gz.ext x5 (fun b hb q => by simp at q; subst q; exact gz.1.ob oe4 hb)).back x03.next
  have wz5 : Wr h h5 z := (wz.ext x5).back x03.next
  have sw5 := sw.ext x05
  have so5 := so.e x05
  have hbe : h.next ≤ be := l1
  obtain ⟨b1, p1, B1, j1, j2, j3⟩ := sw5.atI (i := 1) (show ([0, 1] : List Int)[1]? = some 1 from rfl)
  have j1' : ixsR 1 w (I 1) = some (.ptr b1 p1) := by simpa using j1
  have hlw : lenL w = some (I 2) := by simpa using sw5.len
  simp [hlw, show IntKind.i64.wrap 1 = 1 from wrap_id (by omega) (by omega), J_seq_Seq_Pass_0, j1', j2, j3]
  refine Tells.bind (Tells.loop (fun m t g => ∃ (i : Nat) (d0 d1 : Int) (z : AVal) (zs : List (Int × Int)), t 0 = .ptr bs 0 ∧ t 2 = w ∧ t 4 = .ptr be 0 ∧ t 6 = .ptr bv 0 ∧ t 8 = I 1 ∧ i + m = 2 ∧ SeqO g bs bm bn d0 d1 ∧ Ob g be [I 0, I 0, I 0, I 0, I i, .nils, z] ∧ Ob g bv [I 0, I 0, I 0, I 0, I 0, .nils, .nils] ∧ Gl stR2 h g z zs ∧ Wr h g z ∧ Ext [bn] h g ∧
      ((i = 0 ∧ d0 = c0 ∧ d1 = c1 ∧ zs = [(9, n)]) ∨ (i = 1 ∧ d0 = c0 + 1 ∧ d1 = c1 ∧ zs = [(9, n), (0, c0 + 1)]) ∨ (i = 2 ∧ d0 = c0 + 1 ∧ d1 = c1 + 1 ∧ zs = [(9, n), (0, c0 + 1), (1, c1 + 1)])))
    (Q := fun p g => p.1 = .exit 0 ∧ p.2 4 = .ptr be 0 ∧ p.2 6 = .ptr bv 0 ∧ p.2 8 = I 1 ∧ ∃ z, SeqO g bs bm bn (c0 + 1) (c1 + 1) ∧ Ob g be [I 0, I 0, I 0, I 0, I 2, .nils, z] ∧ Ob g bv [I 0, I 0, I 0, I 0, I 0, .nils, .nils] ∧ Gl stR2 h g z [(9, n), (0, c0 + 1), (1, c1 + 1)] ∧ Wr h g z ∧ Ext [bn] h g) ?_ 2 _ _ ?_) ?_
  · rintro m t g ⟨i, d0, d1, z, zs, t0, t2, t4, t6, t8, hi, sx, oe, ov, gz, wz, x, hc⟩
    refine Tells.prot fun Q2 hQ2 => ?_
    have sg := sw.ext x
    have hne : be ≠ bs ∧ be ≠ bm ∧ be ≠ bn := ⟨by omega, by omega, by omega⟩
    have hvn : ∀ y : AVal, bv ∉ ([] : List Nat) := fun _ => by simp
    unfold L_seq_Seq_Pass_2
    rcases hc with ⟨rfl, rfl, rfl, rfl⟩ | ⟨rfl, rfl, rfl, rfl⟩ | ⟨rfl, rfl, rfl, rfl⟩
    · simp [t4, oe.1, t8, t0]
      refine Tells.bind (seq_own hX sx (p := 0) (by omega)) ?_
      rintro _ g ⟨rfl, rfl⟩
      simp
      refine passStep hX (h := h) (i := 0) (cur := d0) (zs := [(9, n)]) (z := z) (by simp [t0]) (by simp [t2]) (by simp [t4]) (by omega) rfl (by omega) sx oe hne hbe sg gz wz (by simp) x ?_
      intro t' g' z' e0 e2 e4 e6 e8 os' om' on' oe' gz' wz' xx x'
      refine hQ2 _ _ (.inl ⟨rfl, m - 1, by omega, 1, d0 + 1, d1, z', [(9, n), (0, d0 + 1)], by simp [e0, t0], by simp [e2, t2], by simp [e4, t4], by simp [e6, t6], by simp [e8, t8], by omega, ⟨os', om', by simpa using on', so.sm, so.sn, so.mn⟩, by simpa using oe', ?_, by simpa using gz', wz', x', .inr (.inl ⟨rfl, rfl, rfl, rfl⟩)⟩)
      refine ov.ext xx ?_
      intro q
      rcases List.mem_cons.1 q with q | q
      · omega
      · rcases List.mem_cons.1 q with q | q
        · exact hev q.symm
        · exact gz.1.ob ov q
    · simp [t4, oe.1, t8, t0]
      refine Tells.bind (seq_own hX sx (p := 1) (by omega)) ?_
      rintro _ g ⟨rfl, rfl⟩
      simp
      refine passStep hX (h := h) (i := 1) (cur := d1) (zs := [(9, n), (0, c0 + 1)]) (z := z) (by simp [t0]) (by simp [t2]) (by simp [t4]) (by omega) rfl (by omega) sx oe hne hbe sg gz wz (by simp) x ?_
      intro t' g' z' e0 e2 e4 e6 e8 os' om' on' oe' gz' wz' xx x'
      refine hQ2 _ _ (.inl ⟨rfl, m - 1, by omega, 2, c0 + 1, d1 + 1, z', [(9, n), (0, c0 + 1), (1, d1 + 1)], by simp [e0, t0], by simp [e2, t2], by simp [e4, t4], by simp [e6, t6], by simp [e8, t8], by omega, ⟨os', om', by simpa using on', so.sm, so.sn, so.mn⟩, by simpa using oe', ?_, by simpa using gz', wz', x', .inr (.inr ⟨rfl, rfl, rfl, rfl⟩)⟩)
      refine ov.ext xx ?_
      intro q
      rcases List.mem_cons.1 q with q | q
      · omega
      · rcases List.mem_cons.1 q with q | q
        · exact hev q.symm
        · exact gz.1.ob ov q
    · simp [t4, oe.1, t8]
      exact Tells.ok (hQ2 _ _ (.inr ⟨by simp, rfl, by simp [t4], by simp [t6], by simp [t8], z, sx, by simpa using oe, ov, gz, wz, x⟩))
  · exact ⟨0, c0, c1, z, [(9, n)], by simp, by simp, by simp, by simp, by simp, by omega, so5, by simpa using oe5, ov5, gz5, wz5, x05.of, .inl ⟨rfl, rfl, rfl, rfl⟩⟩
  · rintro ⟨ex, t⟩ g ⟨rfl, t4, t6, t8, z, so, oe, ov, gz, wz, x⟩
    simp only at t4 t6 t8
    simp [J_seq_Seq_Pass_1, t4, oe.1, t8, t6]
    refine Tells.stNE ov (by rfl) (by rfl) (by simp [gz.1.one]) (by rfl) fun h9 o9 x9 => ?_
    have oe9 := oe.ext x9 (by simpa using hev)
    simp [oe9.1, C_seq_Seq_Pass_0, o9.1, t6]
    exact Tells.ok (hQ _ _ ⟨z, rfl, gz.1.ext x9, wz.ext x9, so.ext x9 (by simp; omega) (by simp; omega) (by simp; omega), x.then x9 (by simp; omega)⟩)

end
end Go.Proofs.Ytbnnkfbjnpmamaa
