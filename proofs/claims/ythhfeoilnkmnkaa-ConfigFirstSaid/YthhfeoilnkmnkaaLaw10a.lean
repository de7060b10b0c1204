/-
  Law ConfigTells: the walk.
-/
import Derived.Test.YthhfeoilnkmnkaaHand1
import Derived.Test.YthhfeoilnkmnkaaConfig0
import Derived.Test.YthhfeoilnkmnkaaRow0
import Derived.Test.YthhfeoilnkmnkaaSprecentorlaw10
set_option linter.unusedVariables false
set_option linter.unusedSimpArgs false
namespace Go.Proofs.Ythhfeoilnkmnkaa
open Go.Ab

section
variable {X : XTab}

theorem known_X {k : FuncId} (hk : X k [] = some (.bool true)) (h : Heap) : Tells (fun q => acallX Try.prog X q k [] h) fun v h' => v = .bool true ∧ h' = h := by
  refine Tells.later ?_
  simp only [acallX, hk]
  exact Tells.ok ⟨rfl, rfl⟩

theorem RawInts.feed {h : Heap} {v : AVal} {xs : List Int} {bf : Nat} (o : RawInts h v xs) (ob : Ob h bf [v, I 0]) : Feed h bf 0 := ⟨v, 0, xs, ob, by omega, by omega, o.sl, o.small⟩

theorem tellsTail (hX : OnlyKnown X) (hk : X F_precentorlaw10_known [] = some (.bool true)) {Q : AVal → Heap → Prop} (hQ : ∀ h', Q (.bool true) h') {h : Heap} {t : T} {bc : Nat} {v : AVal} {xs : List Int} {w r q f s : Int}
    (t10 : t 10 = .ptr bc 0) (hb : Ob h bc [v, I w, I r, I q, I f, I s]) (o : Sl intR h v xs) (hl : xs.length < 2 ^ 62) :
    Tells (fun m => J_precentorlaw10_ConfigTells_0 Try.prog (acallX Try.prog X m) m (retK Try.prog [.tmp 8]) t h) Q := by
  unfold J_precentorlaw10_ConfigTells_0
  simp
  refine Tells.cbE (known_X hk h) ?_
  rintro _ _ ⟨rfl, rfl⟩
  simp [t10, hb.1]
  refine Tells.cbE (Check hX o hl w r q f s) ?_
  rintro _ h0 ⟨rfl, e0⟩
  have b0 := hb.e e0
  have o0 := o.ext e0
  try simp [t10, hb.1, b0.1]
  refine Tells.cbE (CheckR hX o0 hl w r q f s) ?_
  rintro _ h1 ⟨rfl, e1⟩
  have b1 := b0.e e1
  have o1 := o0.ext e1
  try simp [t10, hb.1, b0.1, b1.1]
  refine Tells.cbE (Brokers hX o1 hl w r q f s) ?_
  rintro _ h2 ⟨rfl, e2⟩
  have b2 := b1.e e2
  have o2 := o1.ext e2
  try simp [t10, hb.1, b0.1, b1.1, b2.1]
  refine Tells.cbE (BrokersR hX o2 hl w r q f s) ?_
  rintro _ h3 ⟨rfl, e3⟩
  have b3 := b2.e e3
  have o3 := o2.ext e3
  try simp [t10, hb.1, b0.1, b1.1, b2.1, b3.1]
  refine Tells.cbE (Flying hX o3 hl w r q f s) ?_
  rintro _ h4 ⟨rfl, e4⟩
  have b4 := b3.e e4
  have o4 := o3.ext e4
  try simp [t10, hb.1, b0.1, b1.1, b2.1, b3.1, b4.1]
  refine Tells.cbE (FlyingR hX o4 hl w r q f s) ?_
  rintro _ h5 ⟨rfl, e5⟩
  have b5 := b4.e e5
  have o5 := o4.ext e5
  try simp [t10, hb.1, b0.1, b1.1, b2.1, b3.1, b4.1, b5.1]
  refine Tells.cbE (Room hX o5 hl w r q f s) ?_
  rintro _ h6 ⟨rfl, e6⟩
  have b6 := b5.e e6
  have o6 := o5.ext e6
  try simp [t10, hb.1, b0.1, b1.1, b2.1, b3.1, b4.1, b5.1, b6.1]
  refine Tells.cbE (RoomR hX o6 hl w r q f s) ?_
  rintro _ h7 ⟨rfl, e7⟩
  have b7 := b6.e e7
  try simp [t10, hb.1, b0.1, b1.1, b2.1, b3.1, b4.1, b5.1, b6.1, b7.1]
  exact Tells.ok (hQ _)

theorem tells (hX : OnlyKnown X) (hk : X F_precentorlaw10_known [] = some (.bool true)) {h : Heap} {v l : AVal} {xs ls : List Int} (o : RawInts h v xs) (ol : RawInts h l ls) (w r q f s how n : Int) :
    Tells (fun m => acallX Try.prog X m F_precentorlaw10_ConfigTells [.agg [v, I w, I r, I q, I f, I s], l, I how, I n] h) fun a h' => a = .bool true := by
  refine R_precentorlaw10_ConfigTells _ _ _ _ (hX _ _ rfl) ?_
  refine Tells.prot fun Q' hQ => ?_
  unfold S_precentorlaw10_ConfigTells
  simp
  refine Tells.box rfl rfl fun h1 b1 r1 x1 l1 => ?_
  simp [bldR, fillR, splice, ol.sl.known, ol.sl.cells]
  refine Tells.box rfl rfl fun h2 bf f2 x2 l2 => ?_
  simp [(r1.e x2).1]
  refine Tells.newSt (by rfl) (by rfl) (by rfl) (by simp [o.sl.one]) fun h3 bc c3 x3 l3 => ?_
  have x13 := (x1.trans x2).trans x3
  have hmin : (if (9 : Int) < xs.length then 9 else (xs.length : Int)) = ((min xs.length 9 : Nat) : Int) := by split <;> omega
  obtain ⟨v', q1, o3, _⟩ := (o.ext x13).sl.takeR (n := 1) rfl (hi := min xs.length 9) (by omega)
  have f3 := RawInts.feed (ol.ext x13) (f2.e x3)
  have hne : bf ≠ bc := by have := f2.lt; omega
  simp [c3.1, (o.ext x13).sl.len, hmin, q1]
  refine Tells.st1 c3 o3.cells o3.one (by simp) fun h4 c4 x4 => ?_
  have f4 := f3.ext x4 (by simpa using hne)
  try simp
  refine Tells.bind (Next hX 4 ⟨by omega, by omega⟩ f4 (by omega)) ?_
  rintro _ h5 ⟨x, rfl, x0, _, _, x5, f5⟩
  have c5 := c4.ext x5 (by simpa using Ne.symm hne)
  have o5 := (o3.ext x4).ext x5
  have small : (xs.take (min xs.length 9)).length < 2 ^ 62 := by simp; omega
  by_cases hx : 0 < x
  · simp [hx]
    refine Tells.bind (Config hX 8 (by omega) (by omega) f5 (by omega)) ?_
    rintro _ h6 ⟨p, ys, w', r', q', fl, s', rfl, cfg, own, x6, f6⟩
    have c6 := c5.ext x6 (by simpa using Ne.symm hne)
    have yl : ys.length < 2 ^ 62 := by have := cfg.len; omega
    try simp
    refine Tells.stN c6 (by rfl) (by rfl) (by simp [own.1.one]) (by rfl) fun h7 c7 x7 => ?_
    have own7 := own.1.ext x7
    try simp
    refine Tells.bind (Pick hX n 4 ⟨by omega, by omega⟩ h7) ?_
    rintro _ h7 ⟨rfl, rfl⟩
    obtain ⟨ed, hed⟩ : ∃ ed, ixa1 4 1 (.agg [I 0, I 9, I (-1), I n]) (I (pick n 4)) = some (I ed) := by
      have p0 := pick_lo n 4
      have p1 := pick_hi n 4 (by omega)
      have : pick n 4 = 0 ∨ pick n 4 = 1 ∨ pick n 4 = 2 ∨ pick n 4 = 3 := by omega
      rcases this with e | e | e | e <;> rw [e] <;> exact ⟨_, rfl⟩
    simp [hed]
    refine Tells.bind (Pick hX how 8 ⟨by omega, by omega⟩ h7) ?_
    rintro _ h7 ⟨rfl, rfl⟩
    by_cases k0 : pick how 8 = 0
    · simp [k0]
      exact Tells.st1 c7 (by rfl) (by rfl) (by simp) fun h8 c8 x8 => tellsTail hX hk (fun h' => hQ _ _ rfl) (by simp) c8 (own7.ext x8) yl
    by_cases k1 : pick how 8 = 1
    · simp [k1]
      exact Tells.st1 c7 (by rfl) (by rfl) (by simp) fun h8 c8 x8 => tellsTail hX hk (fun h' => hQ _ _ rfl) (by simp) c8 (own7.ext x8) yl
    by_cases k2 : pick how 8 = 2
    · simp [k2]
      exact Tells.st1 c7 (by rfl) (by rfl) (by simp) fun h8 c8 x8 => tellsTail hX hk (fun h' => hQ _ _ rfl) (by simp) c8 (own7.ext x8) yl
    by_cases k3 : pick how 8 = 3
    · simp [k3]
      exact Tells.st1 c7 (by rfl) (by rfl) (by simp) fun h8 c8 x8 => tellsTail hX hk (fun h' => hQ _ _ rfl) (by simp) c8 (own7.ext x8) yl
    by_cases k4 : pick how 8 = 4
    · simp [k4]
      exact Tells.st1 c7 (by rfl) (by rfl) (by simp) fun h8 c8 x8 => tellsTail hX hk (fun h' => hQ _ _ rfl) (by simp) c8 (own7.ext x8) yl
    by_cases k5 : pick how 8 = 5
    · simp [k5]
      refine Tells.lit (r := intR) (xs := []) (css := []) (by rfl) trivial (by rfl) (by rfl) (by rfl) fun v8 h8 g8 x8 _ => ?_
      have c8 := c7.e x8
      have yl2 : ys.length ≤ 1000 := by have := cfg.len; omega
      simp [c8.1]
      refine Tells.appN g8 (own7.ext x8) (by rfl) (by simp; omega) (by decide) x8.next fun v9 h9 g9 x9 y9 z9 => ?_
      have c9 := c8.ext x9 (g8.1.ob c8)
      try simp
      refine Tells.app1 g9 (by rfl) (by rfl) (show intR.rep h9 [I ed] ed from rfl) (by rfl) (by rfl) (by simp; omega) (by decide) (y9 [] x8).next fun v10 h10 g10 x10 y10 z10 => ?_
      have c10 := c9.ext x10 (g9.1.ob c9)
      try simp
      refine Tells.st1 c10 g10.1.cells g10.1.one (by simp) fun h11 c11 x11 => ?_
      exact tellsTail hX hk (fun h' => hQ _ _ rfl) (by simp) c11 (g10.1.ext x11) (by simp; omega)
    simp [beq_eq_false_iff_ne.2 k0, beq_eq_false_iff_ne.2 k1, beq_eq_false_iff_ne.2 k2, beq_eq_false_iff_ne.2 k3, beq_eq_false_iff_ne.2 k4, beq_eq_false_iff_ne.2 k5]
    exact tellsTail hX hk (fun h' => hQ _ _ rfl) (by simp) c7 own7 yl
  · simp [hx]
    exact tellsTail hX hk (fun h' => hQ _ _ rfl) (by simp) c5 o5 small

end

section
open Go.ChangeShapes Go.WideShapes Go.ChangeAt Go.RowKit
theorem types24 : Try.prog.cellTypes Try.prog.depth 24 = some [22, 3, 3, 3, 3, 3] := by kernel_rfl
theorem cells24 : Try.prog.cellsOf 24 = 6 := by kernel_rfl
theorem cellsOf3 : Try.prog.cellsOf 3 = 1 := by kernel_rfl
theorem fields24 : ∃ fs : Array Field, Try.prog.underlying 24 = some (.struct fs) ∧ (∀ (i : Nat) (f : Field), fs[i]? = some f → f.offset = i ∧ Try.prog.cellsOf f.type = 1 ∧ [22, 3, 3, 3, 3, 3][i]? = some f.type) ∧ ∀ i : Nat, i < 6 → ∃ f, fs[i]? = some f := by
  refine ⟨_, Try.underlying24, ?_, ?_⟩
  · intro i f hf
    match i, hf with
    | 0, hf => cases hf; exact ⟨rfl, by kernel_rfl, rfl⟩
    | 1, hf => cases hf; exact ⟨rfl, by kernel_rfl, rfl⟩
    | 2, hf => cases hf; exact ⟨rfl, by kernel_rfl, rfl⟩
    | 3, hf => cases hf; exact ⟨rfl, by kernel_rfl, rfl⟩
    | 4, hf => cases hf; exact ⟨rfl, by kernel_rfl, rfl⟩
    | 5, hf => cases hf; exact ⟨rfl, by kernel_rfl, rfl⟩
    | n + 6, hf => simp at hf
  · intro i hi
    match i, hi with
    | 0, _ => exact ⟨_, rfl⟩
    | 1, _ => exact ⟨_, rfl⟩
    | 2, _ => exact ⟨_, rfl⟩
    | 3, _ => exact ⟨_, rfl⟩
    | 4, _ => exact ⟨_, rfl⟩
    | 5, _ => exact ⟨_, rfl⟩

theorem arg_config_ {P : Program} {t t1 t2 : TypeId} (hts : P.cellTypes P.depth t = some [t1, t2, t2, t2, t2, t2]) (hc : P.cellsOf t = 6) (hc1 : P.cellsOf t2 = 1) (hu1 : P.underlying t1 = some (.slice t2)) (hu2 : P.underlying t2 = some (.int .i64))
    (hfs : ∃ fs : Array Field, P.underlying t = some (.struct fs) ∧ (∀ (i : Nat) (f : Field), fs[i]? = some f → f.offset = i ∧ P.cellsOf f.type = 1 ∧ [t1, t2, t2, t2, t2, t2][i]? = some f.type) ∧ ∀ i : Nat, i < 6 → ∃ f, fs[i]? = some f)
    {H : Type} {enc : TypeId × Value → H} {W : World} {b0 base : Nat} {held : Bool} {v : Value} {d : DataW H} {ps : List MemPlace}
    (hval : Value.okWide P W .any b0 t v) (hd : DataW.Trod enc P W base (fun _ => true) held t v d ps) :
    ∃ xs c g b q s, ∃ u : AVal, ofV W.heap.size v = .agg [u, I c, I g, I b, I q, I s] ∧ RawInts (Heap.ofW W) u xs := by
  obtain ⟨fs, hfs, hf1, hf2⟩ := hfs
  obtain ⟨cs, rfl, hsz, hcs⟩ := arg_struct hfs hts (by rw [hc]; rfl) hf1 hval hd
  rw [hc] at hsz
  obtain ⟨l⟩ := cs
  match l, hsz with
  | [a0, a1, a2, a3, a4, a5], _ =>
    have go : ∀ (i : Nat) u x, [t1, t2, t2, t2, t2, t2][i]? = some u → ([a0, a1, a2, a3, a4, a5] : List Value)[i]? = some x → Cell.okWide P W .any b0 u x ∧ ∃ d' p' n, DataW.trod enc P W base (fun _ => true) held n u [x] = some (d', p') := by
      intro i u x ht hx
      have hi : i < 6 := by have := (List.getElem?_eq_some_iff.1 ht).1; simpa using this
      obtain ⟨f, hf⟩ := hf2 i hi
      have h3 := (hf1 i f hf).2.2
      rw [ht] at h3
      cases h3
      exact hcs i f x hf (by simpa using hx)
    obtain ⟨k0, d0, p0, n0, t0⟩ := go 0 _ _ rfl rfl
    obtain ⟨k1, d1, p1, n1, u1⟩ := go 1 _ _ rfl rfl
    obtain ⟨k2, d2, p2, n2, u2⟩ := go 2 _ _ rfl rfl
    obtain ⟨k3, d3, p3, n3, u3⟩ := go 3 _ _ rfl rfl
    obtain ⟨k4, d4, p4, n4, u4⟩ := go 4 _ _ rfl rfl
    obtain ⟨k5, d5, p5, n5, u5⟩ := go 5 _ _ rfl rfl
    obtain ⟨xs, r⟩ := cell_ints hu1 hu2 hc1 k0 t0
    obtain ⟨c, e1, _⟩ := cell_int hu2 k1 u1 W.heap.size
    obtain ⟨g, e2, _⟩ := cell_int hu2 k2 u2 W.heap.size
    obtain ⟨b, e3, _⟩ := cell_int hu2 k3 u3 W.heap.size
    obtain ⟨q, e4, _⟩ := cell_int hu2 k4 u4 W.heap.size
    obtain ⟨s, e5, _⟩ := cell_int hu2 k5 u5 W.heap.size
    exact ⟨xs, c, g, b, q, s, _, by simp only [ofV, ofVA, ofVs, e1, e2, e3, e4, e5], r⟩
theorem tells' {X : XTab} (hX : OnlyKnown X) (hk : X F_precentorlaw10_known [] = some (.bool true)) {h : Heap} {v l : AVal} {xs ls : List Int} (o : RawInts h v xs) (w r q f s : Int) (ol : RawInts h l ls) (how : Int) (_ : In64 how) (n : Int) (_ : In64 n) :
    Tells (fun m => acallX Try.prog X m F_precentorlaw10_ConfigTells [.agg [v, I w, I r, I q, I f, I s], l, I how, I n] h) fun a h' => a = .bool true := tells hX hk o ol w r q f s how n
end
end Go.Proofs.Ythhfeoilnkmnkaa
