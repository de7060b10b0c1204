/-
  Law SeqOwn: the walk.
-/
import Derived.Test.YtbnnkfbjnpmamaaSeq1
import Derived.Test.YtbnnkfbjnpmamaaPoke
import Derived.Test.YtbnnkfbjnpmamaaRow0
import Derived.Test.YtbnnkfbjnpmamaaSprecentorlaw14
set_option linter.unusedVariables false
set_option linter.unusedSimpArgs false
namespace Go.Proofs.Ytbnnkfbjnpmamaa
open Go.Ab

section
variable {X : XTab}

theorem known_X {k : FuncId} (hk : X k [] = some (.bool true)) (h : Heap) : Tells (fun q => acallX Try.prog X q k [] h) fun v h' => v = .bool true ∧ h' = h := by
  refine Tells.later ?_
  simp only [acallX, hk]
  exact Tells.ok ⟨rfl, rfl⟩

theorem ptr_nil {t e : TypeId} (hu : Try.prog.underlying t = some (.pointer e)) (o1 o2 : Operand) (b p : Nat) : aBin Try.prog .eql t o1 o2 (.ptr b p) .nilp = some (.bool false) := by
  simp only [aBin, AVal.toV, aNilCmp, hu, nilRes]

theorem st_at {h : Heap} {v : AVal} {xs : List (Int × Int)} (o : Sl stR2 h v xs) {i : Nat} {x : Int × Int} (hx : xs[i]? = some x) :
    ∃ b p B, ixsR 2 v (.int .i64 (i : Int)) = some (.ptr b p) ∧ h.get b = some B ∧ B[p + 1]? = some (I x.2) := by
  obtain ⟨b, p, B, c, q1, q2, q3⟩ := o.at (n := 2) rfl (i := (i : Int)) (by omega) (by simpa using hx)
  have q3 : c = [I x.1, I x.2] := q3
  subst q3
  exact ⟨b, p, B, q1, q2.get, q2.cell (k := 1) (by simp)⟩

theorem seqOwn_ (hX : OnlyKnown X) (hk : X F_precentorlaw14_known [] = some (.bool true)) {h : Heap} (n : Int) (hn : In64 n) :
    Tells (fun m => acallX Try.prog X m F_precentorlaw14_SeqOwn [I n] h) fun a h' => a = .bool true := by
  refine R_precentorlaw14_SeqOwn _ (hX _ _ rfl) ?_
  refine Tells.prot fun Q' hQ => ?_
  unfold S_precentorlaw14_SeqOwn
  simp [bldR, fillR, splice]
  refine Tells.lit (r := atR) (xs := [(0, 0, 0), (0, 1, 0)]) (css := [[I 0, I 0, I 0], [I 0, I 1, I 0]]) (by rfl) ⟨rfl, rfl, trivial⟩ (by rfl) (by rfl) (by simp [bslR, fillR, splice]) fun c h1 g1 x1 _ => ?_
  try simp
  refine Tells.bind (seq_New2 hX g1.1) ?_
  rintro _ h2 ⟨ax, am, an, rfl, sa, x2, la, lm, ln⟩
  try simp
  refine Tells.bind (seq_New2 hX (g1.1.ext x2)) ?_
  rintro _ h3 ⟨bs, bm, bn, rfl, sb, x3, lb, lbm, lbn⟩
  have sa3 := sa.e x3
  have dj1 : bs ≠ an := by have := sa.n.lt; omega
  have dj2 : bm ≠ an := by have := sa.n.lt; omega
  have dj3 : bn ≠ an := by have := sa.n.lt; omega
  try simp
  refine Tells.bind (known_X hk h3) ?_
  rintro _ h3 ⟨rfl, rfl⟩
  simp [ptr_nil Try.underlying25, J_precentorlaw14_SeqOwn_0, bldR, fillR, splice]
  refine Tells.lit (r := stR2) (xs := [(9, n), (7, 7), (8, 8)]) (css := [[I 9, I n], [I 7, I 7], [I 8, I 8]]) (by rfl) ⟨rfl, rfl, rfl, trivial⟩ (by rfl) (by rfl) (by simp [bslR, fillR, splice]) fun full h4 gf x4 _ => ?_
  obtain ⟨st, f1, ss, _⟩ := gf.1.takeR (n := 2) rfl (hi := 1) (by simp)
  have f1' : slcR 2 full none (some (I 1)) none = some st := by simpa using f1
  simp [f1', ss.known, ss.cells]
  refine Tells.new fun h5 be oe x5 l5 => ?_
  try simp
  refine Tells.stN oe (by rfl) (by rfl) (by simp [ss.one]) (by rfl) fun h6 oe6 x6 => ?_
  have n1 := x1.next
  have n2 := x2.next
  have n3 := x3.next
  have n4 := x4.next
  have n5 := x5.next
  have n6 := x6.next
  have x36 : Ext [] h3 h6 := (x4.trans x5).then x6 (by simp; omega)
  have sa6 := sa3.e x36
  have sb6 := sb.e x36
  have gf6 := (gf.1.ext x5).ext x6
  have ss6 := (ss.ext x5).ext x6
  simp [oe6.1]
  refine Tells.lit (r := intR) (xs := [0, 1]) (css := [[I 0], [I 1]]) (by rfl) ⟨rfl, rfl, trivial⟩ (by rfl) (by rfl) (by simp [bslR, fillR, splice]) fun w7 h7 g7 x7 _ => ?_
  have oe7 := oe6.e x7
  have sa7 := sa6.e x7
  have gf7 := gf6.ext x7
  refine Tells.bind (seq_Pass hX sa7 (by omega) (by omega) g7.1 (ss6.ext x7)) ?_
  rintro _ h8 ⟨zx, rfl, sx8, wx8, sa8, x8⟩
  have n7 := x7.next
  have n8 := x8.next
  have han := sa6.n.lt
  have hea : be ≠ an := by have := sa3.n.lt; omega
  have oe8 := oe7.ext x8 (by simpa using hea)
  have sb8 := (sb6.e x7).ext x8 (by simpa using dj1) (by simpa using dj2) (by simpa using dj3)
  have gf8 := gf7.ext x8
  simp [extR, sx8.known, sx8.cells]
  refine Tells.new fun h9 bx ox x9 l9 => ?_
  try simp
  refine Tells.stN ox (by rfl) (by rfl) (by simp [sx8.one]) (by rfl) fun h10 ox10 x10 => ?_
  have n9 := x9.next
  have n10 := x10.next
  have hbx : ∀ b, b < h8.next → b ≠ bx := fun b hb => by omega
  have oe10 := (oe8.e x9).ext x10 (by simpa using hbx _ oe8.lt)
  have sa10 := (sa8.e x9).ext x10 (by simpa using hbx _ sa8.s.lt) (by simpa using hbx _ sa8.m.lt) (by simpa using hbx _ sa8.n.lt)
  have sb10 := (sb8.e x9).ext x10 (by simpa using hbx _ sb8.s.lt) (by simpa using hbx _ sb8.m.lt) (by simpa using hbx _ sb8.n.lt)
  have gf10 := (gf8.ext x9).ext x10
  have ss10 := ((((ss6.ext x7).ext x8).ext x9).ext x10)
  have sx10 := (sx8.ext x9).ext x10
  have wx10 := (wx8.ext x9).ext x10
  simp [oe10.1]
  refine Tells.lit (r := intR) (xs := [0, 1]) (css := [[I 0], [I 1]]) (by rfl) ⟨rfl, rfl, trivial⟩ (by rfl) (by rfl) (by simp [bslR, fillR, splice]) fun w11 h11 g11 x11 _ => ?_
  refine Tells.bind (seq_Pass hX (sa10.e x11) (by omega) (by omega) g11.1 (ss10.ext x11)) ?_
  rintro _ h12 ⟨zy, rfl, sy12, wy12, sa12, x12⟩
  have n11 := x11.next
  have n12 := x12.next
  have hxa : bx ≠ an := by have := sa8.n.lt; omega
  have ox12 := (ox10.e x11).ext x12 (by simpa using hxa)
  have sb12 := (sb10.e x11).ext x12 (by simpa using dj1) (by simpa using dj2) (by simpa using dj3)
  have gf12 := (gf10.ext x11).ext x12
  have sx12 := (sx10.ext x11).ext x12
  have wx12 := (wx10.ext x11).ext x12
  simp [extR, sy12.known, sy12.cells]
  refine Tells.new fun h13 by_ oy x13 l13 => ?_
  try simp
  refine Tells.stN oy (by rfl) (by rfl) (by simp [sy12.one]) (by rfl) fun h14 oy14 x14 => ?_
  have n13 := x13.next
  have n14 := x14.next
  have hby : ∀ b, b < h12.next → b ≠ by_ := fun b hb => by omega
  have sa14 := (sa12.e x13).ext x14 (by simpa using hby _ sa12.s.lt) (by simpa using hby _ sa12.m.lt) (by simpa using hby _ sa12.n.lt)
  have sb14 := (sb12.e x13).ext x14 (by simpa using hby _ sb12.s.lt) (by simpa using hby _ sb12.m.lt) (by simpa using hby _ sb12.n.lt)
  have ox14 := (ox12.e x13).ext x14 (by simpa using hby _ ox12.lt)
  have sx14 := (sx12.ext x13).ext x14
  have wx14 := (wx12.ext x13).ext x14
  have sy14 := (sy12.ext x13).ext x14
  have wy14 := (wy12.ext x13).ext x14
  -- from the first Pass on
  have xA : Ext [an] h7 h14 := ((((((x8.trans x9.of).then x10 (by simp; omega)).trans x11.of).trans x12).trans x13.of).then x14 (by simp; omega))
  obtain ⟨px, qx, Bx, i1, i2, i3⟩ := st_at sx14 (i := 0) rfl
  obtain ⟨px', qx', Bx', i1', i2', i3'⟩ := st_at sx14 (i := 1) rfl
  obtain ⟨py', qy', By', j1', j2', j3'⟩ := st_at sy14 (i := 1) rfl
  have lx : lenL zx = some (I 3) := by simpa using sx14.len
  have ly : lenL zy = some (I 3) := by simpa using sy14.len
  have i1 : ixsR 2 zx (I 0) = some (.ptr px qx) := by simpa using i1
  have i1' : ixsR 2 zx (I 1) = some (.ptr px' qx') := by simpa using i1'
  have j1' : ixsR 2 zy (I 1) = some (.ptr py' qy') := by simpa using j1'
  simp [ox14.1, oy14.1, lx, ly, i1, i2, i3, i1', i2', i3', j1', j2', j3']
  obtain ⟨b, p, B, c', k1, el, rep, pk⟩ := pokeX (r := stR2) (n := 2) rfl (fun q => q) sx14 wx14 xA (i := 0) (y := (9, n)) rfl
  have rep : c' = [I 9, I n] := rep
  subst rep
  have ek := i1.symm.trans (show ixsR 2 zx (I 0) = some (.ptr b p) by simpa using k1)
  cases ek
  obtain ⟨h15, st15, x15, _, _, _, _, ob15, ot15⟩ := pk 1 (I (IntKind.i64.wrap (n + 1))) (9, IntKind.i64.wrap (n + 1)) (by omega) (by rfl) (by rfl) (by rfl)
  have gf15 := gf7.ext x15
  have sy15 := ot15 zy _ h11.next sy14 (fun b hb => (wy14 b hb).1) (fun b hb => by have := (wx8 b hb).2.2; have := root_le h14 b; omega)
  have sa15 : SeqO h15 ax am an _ _ := ⟨ob15 _ _ sa14.s, ob15 _ _ sa14.m, ob15 _ _ sa14.n, sa14.sm, sa14.sn, sa14.mn⟩
  have sb15 : SeqO h15 bs bm bn _ _ := ⟨ob15 _ _ sb14.s, ob15 _ _ sb14.m, ob15 _ _ sb14.n, sb14.sm, sb14.sn, sb14.mn⟩
  have ox15 := ob15 _ _ ox14
  have oy15 := ob15 _ _ oy14
  obtain ⟨f0b, f0p, f0B, u1, u2, u3⟩ := st_at gf15 (i := 0) rfl
  obtain ⟨f1b, f1p, f1B, v1, v2, v3⟩ := st_at gf15 (i := 1) rfl
  obtain ⟨f2b, f2p, f2B, w1, w2, w3⟩ := st_at gf15 (i := 2) rfl
  obtain ⟨yb, yp, yB, y1, y2, y3⟩ := st_at sy15 (i := 0) rfl
  have u1 : ixsR 2 full (I 0) = some (.ptr f0b f0p) := by simpa using u1
  have v1 : ixsR 2 full (I 1) = some (.ptr f1b f1p) := by simpa using v1
  have w1 : ixsR 2 full (I 2) = some (.ptr f2b f2p) := by simpa using w1
  have y1 : ixsR 2 zy (I 0) = some (.ptr yb yp) := by simpa using y1
  simp [J_precentorlaw14_SeqOwn_1, ox14.1, oy15.1, i1, st15, u1, u2, u3, v1, v2, v3, w1, w2, w3, y1, y2, y3]
  refine Tells.bind (seq_Count hX sb15) ?_
  rintro _ h15 ⟨rfl, rfl⟩
  simp
  refine Tells.bind (seq_Count hX sa15) ?_
  rintro _ h15 ⟨rfl, rfl⟩
  simp
  exact Tells.ok (hQ _ _ rfl)

end
end Go.Proofs.Ytbnnkfbjnpmamaa
