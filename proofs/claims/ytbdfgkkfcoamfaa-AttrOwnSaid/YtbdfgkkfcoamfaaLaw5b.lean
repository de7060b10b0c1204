/-
  Law AttrOwn: the walk.
-/
import Derived.Test.YtbdfgkkfcoamfaaAttr0
import Derived.Test.YtbdfgkkfcoamfaaCls
import Derived.Test.YtbdfgkkfcoamfaaKnown0
import Derived.Test.YtbdfgkkfcoamfaaRow0
import Derived.Test.YtbdfgkkfcoamfaaSprecentorlaw5
set_option linter.unusedVariables false
set_option linter.unusedSimpArgs false
namespace Go.Proofs.Ytbdfgkkfcoamfaa
open Go.Ab

theorem RawInts.feed {h : Heap} {v : AVal} {xs : List Int} {bf : Nat} (o : RawInts h v xs) (ob : Ob h bf [v, I 0]) : Feed h bf 0 := ⟨v, 0, xs, ob, by omega, by omega, o.sl, o.small⟩
theorem attr_flat {h h' : Heap} {cs : List AVal} {x : Att} : attrR.rep h cs x → attrR.rep h' cs x := fun q => q
/-- A row of one's own has no block in common with an older one. -/
theorem Wr.apart {h0 h : Heap} {b : Nat} (w : h0.next ≤ h.root b) {u : AVal} (o : ∀ c, c ∈ u.blks → c < h0.next) : Apart h b u :=
  Apart.of fun c hc q => by have := o c hc; have := root_le h c; omega

theorem attrs_own {X : XTab} (hX : OnlyKnown X) (hk : X F_precentorlaw5_known [] = some (.bool true)) {h : Heap} {v1 : AVal} {xs1 : List Int} (r1 : RawInts h v1 xs1) (x : Int) (hx : In64 x) :
    Tells (fun m => acallX Try.prog X m F_precentorlaw5_AttrOwn [v1, I x] h) fun a _ => a = .bool true := by
  refine R_precentorlaw5_AttrOwn _ _ (hX _ _ rfl) ?_
  refine Tells.prot fun Q' hQ => ?_
  unfold S_precentorlaw5_AttrOwn
  simp [bldR, fillR, splice, r1.sl.known, r1.sl.cells]
  refine Tells.box rfl rfl fun h1 bf of x1 l1 => ?_
  have f1 : Feed h1 bf 0 := RawInts.feed (r1.ext x1) of
  try simp
  refine Tells.bind (AttrsH hX f1 (by omega)) ?_
  rintro ra h2 ⟨ats, ga, hl, hs, hv, x2, f2⟩
  simp only [bsl0, arb_val]
  have e3 := Ext.new h2 false []
  obtain ⟨s3, g3⟩ := Sl.lit (r := attrR) (h := h2) (h0 := h2) (n := 6) (xs := ([] : List Att)) (css := []) (k := 0) (cells := []) rfl trivial rfl rfl
  have a3 := ga.1.ext e3
  try simp
  refine Tells.appN g3 a3 (by rfl) (by simp; omega) (by decide) e3.next fun s4 h4 g4 _ y4 _ => ?_
  have e4 : Ext [] h2 h4 := y4 _ e3
  have a4 := ga.1.ext e4
  simp only [List.nil_append] at g4
  have hb : bldR [.str (bs []), .int .i64 0, .int .i64 0, .flt .f64 0, .str (bs []), .bool false] [(0, 1, .str (bs [98, 101, 104, 105, 110, 100]))] = some (.agg (attC (bs [98, 101, 104, 105, 110, 100], vl0))) := by kernel_rfl
  try simp
  refine Tells.app1 g4 (by rfl) (by rfl) (show attrR.rep h4 (attC (bs [98, 101, 104, 105, 110, 100], vl0)) (bs [98, 101, 104, 105, 110, 100], vl0) from rfl) (by rfl) (by rfl) (by omega) (by decide) e4.next fun s5 h5 g5 _ y5 _ => ?_
  have e5 : Ext [] h2 h5 := y5 _ e4
  have a5 := ga.1.ext e5
  obtain ⟨v6, q6, o6, b6⟩ := g5.1.takeR (n := 6) (by rfl) (hi := ats.length) (by simp)
  have t6 : (ats ++ [((bs [98, 101, 104, 105, 110, 100] : ByteArray), vl0)]).take ats.length = ats := by simp
  rw [t6] at o6
  simp [a5.len, q6]
  refine Tells.bind (attr_Copy hX o6 (by omega)) ?_
  rintro v7 h7 ⟨g7, e7, w7⟩
  try simp
  refine Tells.bind (known_X hk h7) ?_
  rintro _ h7 ⟨rfl, rfl⟩
  have a7 := a5.ext e7
  have fu7 := g5.1.ext e7
  try simp
  refine Tells.bind (attr_Same hX a7 g7.1 (by omega) (by omega)) ?_
  rintro _ h8 ⟨rfl, e8⟩
  have a8 := a7.ext e8
  have fu8 := fu7.ext e8
  have g8 := g7.e e8
  have w8 := w7.ext e8
  have o8 := o6.ext (e7.trans e8)
  have hn8 : h5.next ≤ h8.next := (e7.trans e8).next
  -- the rest
  have rest : ∀ (h9 : Heap) (ats' : List Att) (t : T), t 6 = ra → t 7 = s5 → t 8 = v7 → ats'.length = ats.length → Gl attrR h5 h9 v7 ats' → Sl attrR h9 ra ats → Sl attrR h9 s5 (ats ++ [((bs [98, 101, 104, 105, 110, 100] : ByteArray), vl0)]) → h5.next ≤ h9.next →
      Tells (fun m => J_precentorlaw5_AttrOwn_1 Try.prog (acallX Try.prog X m) m (retK Try.prog [.tmp 4]) t h9) Q' := by
    intro h9 ats' t t6 t7 t8 hl' g9 a9 fu9 hn
    unfold J_precentorlaw5_AttrOwn_1
    simp [t8, bldR, fillR, splice]
    refine Tells.app1 g9 (by rfl) (by rfl) (show attrR.rep h9 (attC (bs [109, 111, 114, 101], vl0)) (bs [109, 111, 114, 101], vl0) from rfl) (by rfl) (by rfl) (by omega) (by decide) hn fun s10 h10 g10 e10 y10 _ => ?_
    have a10 := a9.ext e10
    have fu10 := fu9.ext e10
    obtain ⟨v11, q11, o11, b11⟩ := fu10.takeR (n := 6) (by rfl) (hi := ats.length) (by simp)
    rw [show (ats ++ [((bs [98, 101, 104, 105, 110, 100] : ByteArray), vl0)]).take ats.length = ats by simp] at o11
    simp [t6, t7, a10.len, q11]
    refine Tells.bind (attr_Same hX o11 a10 (by omega) (by omega)) ?_
    rintro _ h12 ⟨rfl, e12⟩
    have fu12 := fu10.ext e12
    have a12 := a10.ext e12
    have g12 := g10.1.ext e12
    obtain ⟨b, p, B, q1, q2, q3, q4, q5, q6, q7⟩ := att_at fu12 (i := ats.length) (a := (bs [98, 101, 104, 105, 110, 100], vl0)) (by simp)
    have w : IntKind.i64.wrap ((ats.length : Int) + 1) = ats.length + 1 := wrap_id (by omega) (by omega)
    have gl : lenL s10 = some (I ((ats.length : Int) + 1)) := by have := g12.len; simpa [hl'] using this
    simp [t6, t7, sameA_self, a12.len, q1, q2, q5, gl, w]
    exact Tells.ok (hQ _ _ rfl)
  simp [sameA_self, J_precentorlaw5_AttrOwn_0, g8.1.len]
  refine Tells.cb (fun hc => ?_) (fun hc => ?_)
  · simp at hc
    have hpos : 0 < ats.length := by omega
    refine Tells.bind (Pick hX x ats.length ⟨by omega, by omega⟩ h8) ?_
    rintro _ h8 ⟨rfl, rfl⟩
    obtain ⟨p0, p1⟩ : 0 ≤ pick x ats.length ∧ pick x ats.length < ats.length := ⟨pick_lo _ _, pick_hi _ _ (by omega)⟩
    obtain ⟨i, hi⟩ : ∃ i : Nat, pick x ats.length = i := ⟨(pick x ats.length).toNat, by omega⟩
    obtain ⟨a, ha⟩ : ∃ a, ats[i]? = some a := ⟨_, List.getElem?_eq_getElem (by omega)⟩
    obtain ⟨b, p, B, c, hb, hm, hlt, q1, el, hr, k⟩ := pokeC (n := 6) (by rfl) attr_flat g8.1 (fun b hb => (w8 b hb).2.1) ha
    have hrb := (w8 b (by rw [hb]; simp)).1
    have hr : c = attC a := hr
    subst hr
    obtain ⟨h', st, xc, sl', gr⟩ := k 0 (.str (bs [116, 117, 114, 110, 101, 100])) (bs [116, 117, 114, 110, 101, 100], a.2) (by decide) rfl rfl rfl
    have old : ∀ (u : AVal) {l : List Att}, Sl attrR h5 u l → Sl attrR h8 u l → Sl attrR h' u l := fun u l o5 o8 => o8.extC attr_flat xc (Wr.apart hrb fun c hc => (o5.blk c hc).2)
    rw [Nat.add_zero] at st
    simp [hi, q1, st]
    exact rest h' _ _ (by simp) (by simp) (by simp) (by simp) ⟨sl', gr _ g8.2⟩ (old _ a5 a8) (old _ g5.1 fu8) (by rw [xc.next]; exact hn8)
  · exact rest h8 ats _ (by simp) (by simp) (by simp) rfl g8 a8 fu8 hn8
end Go.Proofs.Ytbdfgkkfcoamfaa
