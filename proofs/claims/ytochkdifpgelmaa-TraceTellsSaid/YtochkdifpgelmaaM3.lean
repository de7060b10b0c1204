/-
  Texts of a claim, merged: Law25i.
-/
import Derived.Test.YtochkdifpgelmaaM2
set_option linter.unusedVariables false
set_option linter.unusedSimpArgs false
/-! TraceTells: the head; what its arguments are. -/
namespace Go.Proofs.Ytochkdifpgelmaa
open Go.Ab Go.ChangeShapes Go.WideShapes Go.ChangeAt Go.RowKit Go.Deep

def RawMk (h : Heap) (a : AVal) (xs : List Mk) : Prop := SlZ mkR h a xs
def RawId (_ : Heap) (a : AVal) (x : Int × Int) : Prop := a = .agg (idC x)

section
variable {X : XTab}
theorem traceTells_ (hX : OnlyKnown X) (hk : X F_precentorlaw25_known [] = some (.bool true)) {h : Heap} {v1 : AVal} {xs1 : List Int} (r1 : RawInts h v1 xs1) {v2 : AVal} {raw : List Mk} (r2 : RawMk h v2 raw) (odd : Bool) (who : Int) (_ : In64 who) {v5 : AVal} {x : Int × Int} (r5 : RawId h v5 x) :
    Tells (fun q => acallX Try.prog X q F_precentorlaw25_TraceTells [v1, v2, .bool odd, I who, v5] h) fun v _ => v = .bool true := by
  have r5 : v5 = .agg (idC x) := r5
  subst r5
  refine R_precentorlaw25_TraceTells _ _ _ _ _ (hX _ _ rfl) ?_
  refine Tells.prot fun Q' hQ => ?_
  unfold S_precentorlaw25_TraceTells
  simp
  refine Tells.box (cs := idC x) (by rfl) (by rfl) fun h1 bx ob x1 lx => ?_
  try simp
  refine Tells.bind (law_marks hX (odd := odd) (r1.ext x1) (SlZ.ext r2 x1)) ?_
  rintro mv g1 ⟨gm, wm, x2⟩
  have hml := marksL_len xs1 raw odd
  generalize marksL xs1 raw odd = m at *
  have om := gm.1
  have ob2 := ob.e x2
  have ob2e := ob2.1
  simp only [idC] at ob2e
  simp [om.len]
  have fin : ∀ {g : Heap} {y : Int × Int} (w : Int) {t : T}, Sl mkR g mv m → Ob g bx (idC y) → t 3 = I w → t 9 = .ptr bx 0 → t 11 = mv → Tells (fun q => J_precentorlaw25_TraceTells_0 Try.prog (acallX Try.prog X q) q (retK Try.prog [.tmp 10]) t g) Q' := fun _ _ o o' h3 h9 h11 => (tells_J hX hk o hml o' h3 h9 h11).mono fun v h hv => hQ v h hv
  by_cases hc : 0 < m.length
  · have hc' : (0 : Int) < (m.length : Int) := by omega
    have pk0 := pick_lo who m.length
    have pk1 := pick_hi who m.length (by omega)
    simp [hc]
    refine Tells.bind (Pick hX who _ ⟨by omega, by omega⟩ g1) ?_
    rintro _ g1 ⟨rfl, rfl⟩
    obtain ⟨k, hkk⟩ : ∃ k : Nat, pick who m.length = k := ⟨(pick who m.length).toNat, by omega⟩
    rw [hkk] at pk0 pk1 ⊢
    obtain ⟨a, ha⟩ : ∃ a, m[k]? = some a := ⟨_, List.getElem?_eq_getElem (by omega)⟩
    obtain ⟨b, p, B, q1, q2, q3, q4, q5, q6, q7, q8, q9⟩ := mk_at om ha
    simp [q1, q2, q7]
    cases odd with
    | true =>
      simp
      exact fin a.c om ob2 (by simp) (by simp) (by simp)
    | false =>
      have pj0 := pick_lo x.2 m.length
      have pj1 := pick_hi x.2 m.length (by omega)
      simp [ob2e, om.len]
      refine Tells.bind (Pick hX x.2 _ ⟨by omega, by omega⟩ g1) ?_
      rintro _ g1 ⟨rfl, rfl⟩
      obtain ⟨j, hjj⟩ : ∃ k : Nat, pick x.2 m.length = k := ⟨(pick x.2 m.length).toNat, by omega⟩
      rw [hjj] at pj0 pj1 ⊢
      obtain ⟨c, hcj⟩ : ∃ a, m[j]? = some a := ⟨_, List.getElem?_eq_getElem (by omega)⟩
      obtain ⟨b', p', B', k1, k2, k3, k4, k5, k6, k7, k8, k9⟩ := mk_at om hcj
      simp [k1, k2, k3, k4]
      refine Tells.newSt (ds := mkC c) (by rfl) (by rfl) (by rfl) (by rfl) fun g3 bk ok x3 l3 => ?_
      have ob3 := ob2.e x3
      have oke := ok.1
      simp only [mkC] at oke
      simp [oke, bldR, fillR, splice]
      refine Tells.stN ob3 (ds := [I c.c, I c.s]) (by rfl) (by rfl) (by rfl) (by rfl) fun g4 o4 x4 => ?_
      try simp
      exact fin (y := (c.c, c.s)) a.c ((om.ext x3).ext x4) o4 (by simp) (by simp) (by simp)
  · have hc' : ¬ (0 : Int) < (m.length : Int) := by omega
    have hc2 : m.length = 0 := by omega
    simp [hc2]
    exact fin who om ob2 (by simp) (by simp) (by simp)
end

theorem reads_marks {P : Program} {t e i b : TypeId} (ht : P.underlying t = some (.slice e)) (hc : P.cellsOf e = 4) (hf : ∃ fs, P.underlying e = some (.struct fs) ∧ ∀ k, k < ([(b, 0, 1), (i, 1, 1), (i, 2, 1), (i, 3, 1)] : List (TypeId × Nat × Nat)).length → ∃ f, fs[k]? = some f ∧ ([(b, 0, 1), (i, 1, 1), (i, 2, 1), (i, 3, 1)] : List (TypeId × Nat × Nat))[k]? = some (f.type, f.offset, P.cellsOf f.type))
    (hb : P.underlying b = some .bool) (hi : P.underlying i = some (.int .i64)) : Reads P t fun h a => ∃ xs, RawMk h a xs := by
  intro H enc W b0 base v d ps hval hd
  obtain ⟨xs, q1, _⟩ := reads_slice mkR (Good := fun _ => True) ht hc (fun {H} enc w hw0 base n cs y hl hy => by
    obtain ⟨_, hx⟩ := read_struct _ hf hy
    match cs, hl with
    | [a0, a1, a2, a3], _ =>
      obtain ⟨n0, y0, h0⟩ := hx 0 _ _ _ rfl
      obtain ⟨n1, y1, h1⟩ := hx 1 _ _ _ rfl
      obtain ⟨n2, y2, h2⟩ := hx 2 _ _ _ rfl
      obtain ⟨n3, y3, h3⟩ := hx 3 _ _ _ rfl
      obtain ⟨x0, e0⟩ : ∃ z : Bool, ofV w.heap.size a0 = .bool z := by
        obtain ⟨z, q1, _⟩ := DataW.trod_bool hb (by simpa using h0)
        cases q1
        exact ⟨z, rfl⟩
      obtain ⟨x1, e1, _⟩ := read_int hi (by simpa using h1) w.heap.size
      obtain ⟨x2, e2, _⟩ := read_int hi (by simpa using h2) w.heap.size
      obtain ⟨x3, e3, _⟩ := read_int hi (by simpa using h3) w.heap.size
      exact ⟨⟨x0, x1, x2, x3⟩, by simp [ofVs, e0, e1, e2, e3, mkR], trivial⟩) enc W b0 base v d ps hval hd
  exact ⟨xs, q1⟩
theorem reads26 : Reads Try.prog 26 fun h a => ∃ xs, RawMk h a xs :=
  reads_marks (e := 23) (b := 4) (i := 3) Try.underlying26 (by kernel_rfl) ⟨_, Try.underlying23, fun k hk => match k, hk with
    | 0, _ => ⟨_, rfl, by kernel_rfl⟩
    | 1, _ => ⟨_, rfl, by kernel_rfl⟩
    | 2, _ => ⟨_, rfl, by kernel_rfl⟩
    | 3, _ => ⟨_, rfl, by kernel_rfl⟩⟩ Try.underlying4 Try.underlying3

theorem reads_bool {P : Program} {t : TypeId} (ht : P.underlying t = some .bool) : Reads P t fun h a => ∃ b : Bool, a = .bool b := by
  intro H enc w b0 base v d ps hval hd
  obtain ⟨b, rfl⟩ := okWide_bool ht hval
  exact ⟨b, rfl⟩
theorem reads_id {P : Program} {v i : TypeId} (hc : P.cellsOf v = 2)
    (hg : ∃ fs, P.underlying v = some (.struct fs) ∧ ∀ k, k < ([(i, 0, 1), (i, 1, 1)] : List (TypeId × Nat × Nat)).length → ∃ f, fs[k]? = some f ∧ ([(i, 0, 1), (i, 1, 1)] : List (TypeId × Nat × Nat))[k]? = some (f.type, f.offset, P.cellsOf f.type))
    (hi : P.underlying i = some (.int .i64)) : Reads P v fun h a => ∃ x, RawId h a x := by
  intro H enc w b0 base z d ps hval hd
  obtain ⟨fs, hfs, _⟩ := id hg
  obtain ⟨cs, rfl, hsz⟩ := okWide_struct hfs hval
  obtain ⟨fuel, hf⟩ := hd
  obtain ⟨l⟩ := cs
  have hl : l.length = 2 := by rw [← hc]; exact hsz
  obtain ⟨_, hr⟩ := read_struct _ hg (cs := l) (by simpa [Value.cells] using hf)
  match l, hl with
  | [a1, a2], _ =>
    obtain ⟨m0, z0, k0⟩ := hr 0 _ _ _ rfl
    obtain ⟨m1, z1, k1⟩ := hr 1 _ _ _ rfl
    obtain ⟨i1, e1, _⟩ := read_int hi (by simpa using k0) w.heap.size
    obtain ⟨i2, e2, _⟩ := read_int hi (by simpa using k1) w.heap.size
    exact ⟨(i1, i2), by simp [RawId, idC, ofV, ofVA, ofVs, e1, e2]⟩
theorem reads30 : Reads Try.prog 30 fun h a => ∃ x, RawId h a x :=
  reads_id (i := 3) (by kernel_rfl) ⟨_, Try.underlying30, fun k hk => match k, hk with
    | 0, _ => ⟨_, rfl, by kernel_rfl⟩
    | 1, _ => ⟨_, rfl, by kernel_rfl⟩⟩ Try.underlying3
end Go.Proofs.Ytochkdifpgelmaa
