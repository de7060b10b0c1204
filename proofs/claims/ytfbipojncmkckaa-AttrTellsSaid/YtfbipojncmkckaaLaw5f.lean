/-
  Law AttrTells: the walk.
-/
import Derived.Test.YtfbipojncmkckaaLaw5e
import Derived.Test.YtfbipojncmkckaaKnown0
import Derived.Test.YtfbipojncmkckaaArg0
import Derived.Test.YtfbipojncmkckaaABProg
import Derived.WalkKit
set_option linter.unusedVariables false
set_option linter.unusedSimpArgs false
namespace Go.Proofs.Ytfbipojncmkckaa
open Go.Ab

section
variable {X : XTab}

theorem att4 (n0 n1 n2 n3 : ByteArray) (i : Nat) (hi : i < 4) (h0 : n0.size < 2 ^ 63) (h1 : n1.size < 2 ^ 63) (h2 : n2.size < 2 ^ 63) (h3 : n3.size < 2 ^ 63) : ∃ nm : ByteArray, ixa1 4 1 (.agg [.str n0, .str n1, .str n2, .str n3]) (I i) = some (.str nm) ∧ nm.size < 2 ^ 63 := by
  match i, hi with
  | 0, _ => exact ⟨n0, by simp [ixa1], h0⟩
  | 1, _ => exact ⟨n1, by simp [ixa1], h1⟩
  | 2, _ => exact ⟨n2, by simp [ixa1], h2⟩
  | 3, _ => exact ⟨n3, by simp [ixa1], h3⟩

theorem attrLoop (hX : OnlyKnown X) {t : T} {g : Heap} {va : AVal} {A : List Att} {n0 n1 n2 n3 : ByteArray} (h0 : n0.size < 2 ^ 63) (h1 : n1.size < 2 ^ 63) (h2 : n2.size < 2 ^ 63) (h3 : n3.size < 2 ^ 63) (t10 : t 10 = va) (t36 : t 36 = .agg [.str n0, .str n1, .str n2, .str n3]) (t37 : t 37 = I 0) (oa : Sl attrR g va A) (hA : A.length ≤ 8) :
    Tells (fun m => loopN (L_precentorlaw5_AttrTells_2 Try.prog (acallX Try.prog X m) m) m t g) fun p g' => p.1 = .exit 0 ∧ p.2 10 = t 10 ∧ p.2 11 = t 11 ∧ Ext [] g g' := by
  refine Tells.loop (fun n t' g' => ∃ i : Nat, t' 10 = va ∧ t' 11 = t 11 ∧ t' 36 = .agg [.str n0, .str n1, .str n2, .str n3] ∧ t' 37 = I i ∧ i + n = 4 ∧ Ext [] g g') ?_ 4 _ _ ?_
  · rintro n t' g' ⟨i, e10, e11, e36, e37, hi, x⟩
    refine Tells.prot fun Q2 hQ2 => ?_
    unfold L_precentorlaw5_AttrTells_2
    by_cases hc : i < 4
    · have hc' : (i : Int) < 4 := by omega
      obtain ⟨nm, hnm, hsz⟩ := att4 n0 n1 n2 n3 i hc h0 h1 h2 h3
      have w : IntKind.i64.wrap ((i : Int) + 1) = i + 1 := wrap_id (by omega) (by omega)
      simp [e37, hc', J_precentorlaw5_AttrTells_3, e36, hnm, e10]
      refine Tells.bind (attr_Get hX (oa.ext x) (by omega) nm) ?_
      rintro ra g1 ⟨x1, ha⟩
      have get : ∃ (w : Vl) (ok : Bool), ra = .tup [.agg (vlC w), .bool ok] ∧ ((∃ a, getA A nm = some a ∧ w = a.2 ∧ ok = true) ∨ (getA A nm = none ∧ w = vl0 ∧ ok = false)) := by
        rcases ha with ⟨a, q1, q2⟩ | ⟨q1, q2⟩
        · exact ⟨a.2, true, q2, .inl ⟨a, q1, rfl, rfl⟩⟩
        · exact ⟨vl0, false, q2, .inr ⟨q1, rfl, rfl⟩⟩
      obtain ⟨wa, ok, rfl, hw⟩ := get
      simp
      refine Tells.newSt (ds := vlC wa) (by rfl) (by rfl) (by rfl) (by rfl) fun g2 b2 o2 x2 l2 => ?_
      simp [e10]
      refine Tells.bind (ref_Get hX (((oa.ext x).ext x1).ext x2) (by omega) nm) ?_
      rintro rb g3 ⟨x3, hb⟩
      have rbe : rb = .tup [.agg (vlC wa), .bool ok] := by
        rcases hw with ⟨a, q1, rfl, rfl⟩ | ⟨q1, rfl, rfl⟩
        · rcases hb with ⟨a', q2, q3⟩ | ⟨q2, _⟩
          · rw [q1] at q2; cases q2; exact q3
          · rw [q1] at q2; cases q2
        · rcases hb with ⟨a', q2, _⟩ | ⟨q2, q3⟩
          · rw [q1] at q2; cases q2
          · exact q3
      subst rbe
      have o23 := o2.e x3
      simp
      refine Tells.newSt (ds := vlC wa) (by rfl) (by rfl) (by rfl) (by rfl) fun g4 b4 o4 x4 l4 => ?_
      have o24 := o23.e x4
      have l5 : (vlC wa).length = 5 := rfl
      simp [o24.1, o4.1, l5, List.take_of_length_le (Nat.le_of_eq l5), Try.underlying4]
      refine Tells.bind (ref_SameValue hX wa wa g4) ?_
      rintro _ g5 ⟨rfl, x5⟩
      simp [sameV_self]
      refine Tells.bind (attr_Word hX nm hsz g5) ?_
      rintro _ g5 ⟨rfl, rfl⟩
      try simp
      refine Tells.bind (ref_Word hX nm hsz g5) ?_
      rintro _ g5 ⟨rfl, rfl⟩
      simp [J_precentorlaw5_AttrTells_4, e37, w, Try.underlying4]
      exact Tells.ok (hQ2 _ _ (.inl ⟨rfl, n - 1, by omega, i + 1, by simp [e10], by simp [e11], by simp [e36], by simp, by omega, ((((x.trans x1).trans x2).trans x3).trans x4).trans x5⟩))
    · have hc' : ¬ (i : Int) < 4 := by omega
      simp [e37, hc']
      exact Tells.ok (hQ2 _ _ (.inr ⟨by simp, rfl, by simp [e10, t10], by simp [e11], x⟩))
  · exact ⟨0, t10, rfl, t36, by simpa using t37, by omega, .refl⟩

theorem attrTail (hX : OnlyKnown X) (hk : X F_precentorlaw5_known [] = some (.bool true)) {t : T} {g : Heap} {va vb : AVal} {A B : List Att} {nm : ByteArray} (hn : nm.size < 2 ^ 63) (t3 : t 3 = .str nm) (t10 : t 10 = va) (t11 : t 11 = vb) (oa : Sl attrR g va A) (hA : A.length ≤ 8) (sA : ∀ a, a ∈ A → a.1.size < 2 ^ 63) (ob : Sl attrR g vb B) (hB : B.length ≤ 8) :
    Tells (fun m => J_precentorlaw5_AttrTells_0 Try.prog (acallX Try.prog X m) m (retK Try.prog [.tmp 8]) t g) fun r _ => r = .bool true := by
  unfold J_precentorlaw5_AttrTells_0
  simp [t3, bldR, fillR, splice]
  have s1 : (bs [97]).size < 2 ^ 63 := by decide
  have s2 : (bs [108, 111, 110, 103]).size < 2 ^ 63 := by decide
  have s3 : (bs []).size < 2 ^ 63 := by decide
  refine Tells.bind (attrLoop hX (n0 := nm) (n1 := bs [97]) (n2 := bs [108, 111, 110, 103]) (n3 := bs []) hn s1 s2 s3 (va := va) (by simp [t10]) (by simp) (by simp) oa hA) ?_
  rintro ⟨ex, t'⟩ g1 ⟨rfl, p10, p11, x1⟩
  simp only at p10 p11
  have p10 : t' 10 = va := by rw [p10]; simp [t10]
  have p11 : t' 11 = vb := by rw [p11]; simp [t11]
  simp [J_precentorlaw5_AttrTells_1]
  refine Tells.bind (known_X hk g1) ?_
  rintro _ g1 ⟨rfl, rfl⟩
  try simp [p10]
  have oa1 := oa.ext x1
  refine Tells.bind (attr_RightG hX oa1 sA (by omega)) ?_
  rintro _ g2 ⟨rfl, x2⟩
  try simp [p10]
  refine Tells.bind (ref_RightAttrs hX (oa1.ext x2) sA (by omega)) ?_
  rintro _ g3 ⟨rfl, x3⟩
  have x23 := x2.trans x3
  have oa3 := oa1.ext x23
  have ob3 := (ob.ext x1).ext x23
  simp [p10, p11, Try.underlying4]
  refine Tells.bind (attr_Same hX oa3 ob3 (by omega) (by omega)) ?_
  rintro _ g4 ⟨rfl, x4⟩
  try simp [p10, p11]
  refine Tells.bind (ref_SameAttrs hX (oa3.ext x4) (ob3.ext x4) (by omega) (by omega)) ?_
  rintro _ g5 ⟨rfl, x5⟩
  simp [p10, Try.underlying4]
  refine Tells.bind (attr_Copy hX ((oa3.ext x4).ext x5) (by omega)) ?_
  rintro vc g6 ⟨gc, x6, _⟩
  try simp [p10]
  refine Tells.bind (ref_SameAttrs hX gc.1 (((oa3.ext x4).ext x5).ext x6) (by omega) (by omega)) ?_
  rintro _ g7 ⟨rfl, x7⟩
  simp [sameA_self]
  exact Tells.ok rfl

theorem attrTells_ (hX : OnlyKnown X) (hk : X F_precentorlaw5_known [] = some (.bool true)) {h : Heap} {v1 v2 v3 : AVal} {L1 L2 : List Att} {xs : List Int} (r1 : RawA h v1 L1) (r2 : RawA h v2 L2) (r3 : RawInts h v3 xs) (nm : ByteArray) (hn : nm.size < 2 ^ 63) :
    Tells (fun m => acallX Try.prog X m F_precentorlaw5_AttrTells [v1, v2, v3, .str nm] h) fun a _ => a = .bool true := by
  refine R_precentorlaw5_AttrTells _ _ _ _ (hX _ _ rfl) ?_
  refine Tells.prot fun Q' hQ => ?_
  unfold S_precentorlaw5_AttrTells
  simp [bldR, fillR, splice, r3.sl.known, r3.sl.cells]
  refine Tells.box rfl rfl fun h1 bf f1 x1 l1 => ?_
  have fd1 : Feed h1 bf 0 := ⟨_, 0, xs, f1, by omega, by omega, (r3.ext x1).sl, r3.small, (r3.ext x1).old⟩
  try simp
  refine Tells.bind (attrs5 hX fd1 (by omega) (r1.ext x1) hn) ?_
  rintro va h2 ⟨A, oa, hA, sA, x2, fd2⟩
  try simp
  refine Tells.bind (attrs5 hX fd2 (by omega) ((r2.ext x1).ext x2) hn) ?_
  rintro vb h3 ⟨B, ob, hB, sB, x3, fd3⟩
  try simp
  refine Tells.bind (Next hX 3 ⟨by omega, by omega⟩ fd3 (by omega)) ?_
  rintro _ h4 ⟨c, rfl, c0, c1, _, x4, fd4⟩
  have oa4 := (oa.ext x3).ext x4
  have ob4 := ob.ext x4
  by_cases hc : c = 0
  · subst hc
    simp
    refine Tells.lit (r := attrR) (xs := []) (css := []) (by rfl) trivial (by rfl) (by rfl) (bsl0 6 h4) fun vc h5 g5 x5 _ => ?_
    try simp
    refine Tells.appN g5 (oa4.ext x5) (by rfl) (by simp; omega) (by decide) x5.next fun s6 h6 g6 x6 y6 z6 => ?_
    try simp
    have x46 : Ext [] h4 h6 := y6 _ x5
    refine (attrTail hX hk hn (va := va) (vb := s6) (by simp) (by simp) (by simp) (oa4.ext x46) hA sA (by simpa using g6.1) hA).mono fun r h q => hQ _ _ q
  · have bc : (c == 0) = false := beq_eq_false_iff_ne.2 hc
    simp [bc]
    refine (attrTail hX hk hn (va := va) (vb := vb) (by simp) (by simp) (by simp) oa4 hA sA ob4 hB).mono fun r h q => hQ _ _ q
end

section
open Go.ChangeShapes Go.WideShapes Go.ChangeAt Go.RowKit Go.Deep
theorem read_str {H : Type} {enc : TypeId × Value → H} {P : Program} {w : World} {base : Nat} {spare : Nat → Bool} {held : Bool} {t : TypeId} {n : Nat} {v : Value} {y : DataW H × List MemPlace} (ht : P.underlying t = some .string) (h : DataW.trod enc P w base spare held n t [v] = some y) (m : Nat) : ∃ s : ByteArray, ofV m v = .str s ∧ s.size < 2 ^ 63 := by
  obtain ⟨s, q1, _, q3⟩ := DataW.trod_string ht h
  cases q1
  have : s.size ≤ 2 ^ 63 - 1 := q3
  exact ⟨s, rfl, by omega⟩
theorem read_bool {H : Type} {enc : TypeId × Value → H} {P : Program} {w : World} {base : Nat} {spare : Nat → Bool} {held : Bool} {t : TypeId} {n : Nat} {v : Value} {y : DataW H × List MemPlace} (ht : P.underlying t = some .bool) (h : DataW.trod enc P w base spare held n t [v] = some y) (m : Nat) : ∃ b : Bool, ofV m v = .bool b := by
  obtain ⟨b, q1, _⟩ := DataW.trod_bool ht h
  cases q1
  exact ⟨b, rfl⟩
theorem read_float {H : Type} {enc : TypeId × Value → H} {P : Program} {w : World} {base : Nat} {spare : Nat → Bool} {held : Bool} {t : TypeId} {n : Nat} {v : Value} {y : DataW H × List MemPlace} (ht : P.underlying t = some (.float .f64)) (h : DataW.trod enc P w base spare held n t [v] = some y) (m : Nat) : ∃ x : Nat, ofV m v = .flt .f64 x := by
  cases n with
  | zero => simp [DataW.trod] at h
  | succ n =>
    unfold DataW.trod at h
    rw [ht] at h
    split at h <;> simp_all
    rename_i k k' b e1
    obtain ⟨⟨rfl, _⟩, _⟩ := h
    exact ⟨b, rfl⟩

theorem reads_attrs {P : Program} {t e v i n x s b : TypeId} (ht : P.underlying t = some (.slice e)) (hc : P.cellsOf e = 6)
    (hf : ∃ fs, P.underlying e = some (.struct fs) ∧ ∀ k, k < ([(s, 0, 1), (v, 1, 5)] : List (TypeId × Nat × Nat)).length → ∃ f, fs[k]? = some f ∧ ([(s, 0, 1), (v, 1, 5)] : List (TypeId × Nat × Nat))[k]? = some (f.type, f.offset, P.cellsOf f.type))
    (hg : ∃ fs, P.underlying v = some (.struct fs) ∧ ∀ k, k < ([(i, 0, 1), (n, 1, 1), (x, 2, 1), (s, 3, 1), (b, 4, 1)] : List (TypeId × Nat × Nat)).length → ∃ f, fs[k]? = some f ∧ ([(i, 0, 1), (n, 1, 1), (x, 2, 1), (s, 3, 1), (b, 4, 1)] : List (TypeId × Nat × Nat))[k]? = some (f.type, f.offset, P.cellsOf f.type))
    (hi : P.underlying i = some (.int .i64)) (hn : P.underlying n = some (.int .i64)) (hx : P.underlying x = some (.float .f64)) (hs : P.underlying s = some .string) (hb : P.underlying b = some .bool) : Reads P t fun h a => ∃ l, RawA h a l := by
  intro H enc W b0 base w d ps hval hd
  obtain ⟨xs, q1, q2, q3, _⟩ := reads_sliceS attrR (Good := fun a => a.1.size < 2 ^ 63) ht hc (fun {H} enc w hw0 base m cs y hl hy => by
    obtain ⟨_, hq⟩ := read_struct _ hf hy
    match cs, hl with
    | [a0, a1, a2, a3, a4, a5], _ =>
      obtain ⟨n0, y0, h0⟩ := hq 0 _ _ _ rfl
      obtain ⟨n1, y1, h1⟩ := hq 1 _ _ _ rfl
      obtain ⟨_, hr⟩ := read_struct _ hg h1
      obtain ⟨m0, z0, k0⟩ := hr 0 _ _ _ rfl
      obtain ⟨m1, z1, k1⟩ := hr 1 _ _ _ rfl
      obtain ⟨m2, z2, k2⟩ := hr 2 _ _ _ rfl
      obtain ⟨m3, z3, k3⟩ := hr 3 _ _ _ rfl
      obtain ⟨m4, z4, k4⟩ := hr 4 _ _ _ rfl
      obtain ⟨s0, e0, b0⟩ := read_str hs (by simpa using h0) w.heap.size
      obtain ⟨i1, e1, _⟩ := read_int hi (by simpa using k0) w.heap.size
      obtain ⟨i2, e2, _⟩ := read_int hn (by simpa using k1) w.heap.size
      obtain ⟨f3, e3⟩ := read_float hx (by simpa using k2) w.heap.size
      obtain ⟨s4, e4, _⟩ := read_str hs (by simpa using k3) w.heap.size
      obtain ⟨b5, e5⟩ := read_bool hb (by simpa using k4) w.heap.size
      exact ⟨(s0, ⟨i1, i2, f3, s4, b5⟩), by simp [ofVs, e0, e1, e2, e3, e4, e5, attrR, attC, vlC], b0⟩) enc W b0 base w d ps hval hd
  exact ⟨xs, q1, q2, q3⟩

theorem reads28 : Reads Try.prog 28 fun h a => ∃ l, RawA h a l :=
  reads_attrs (e := 27) (v := 24) (i := 3) (n := 2) (x := 22) (s := 9) (b := 4) Try.underlying28 (by kernel_rfl)
    ⟨_, Try.underlying27, fun k hk => match k, hk with
    | 0, _ => ⟨_, rfl, by kernel_rfl⟩
    | 1, _ => ⟨_, rfl, by kernel_rfl⟩⟩
    ⟨_, Try.underlying24, fun k hk => match k, hk with
    | 0, _ => ⟨_, rfl, by kernel_rfl⟩
    | 1, _ => ⟨_, rfl, by kernel_rfl⟩
    | 2, _ => ⟨_, rfl, by kernel_rfl⟩
    | 3, _ => ⟨_, rfl, by kernel_rfl⟩
    | 4, _ => ⟨_, rfl, by kernel_rfl⟩⟩ Try.underlying3 Try.underlying2 Try.underlying22 Try.underlying9 Try.underlying4
end
end Go.Proofs.Ytfbipojncmkckaa
