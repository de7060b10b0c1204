/-
  Texts of a claim, merged: HandGN, FeedX, HandH3, DkK, DkL, DkM, FoldD6, DkN, DkO, DkP.
-/
import Derived.Test.YtbolfamaffbnnaaM2
import Derived.Test.YtbolfamaffbnnaaOps
import Derived.Test.YtbolfamaffbnnaaWrE
import Derived.Test.YtbolfamaffbnnaaCls
import Derived.Test.YtbolfamaffbnnaaRawD
import Derived.Test.YtbolfamaffbnnaaRow0
set_option linter.unusedVariables false
set_option linter.unusedSimpArgs false
/-! What precentorhand's Name, Pred, Filter tell. -/
namespace Go.Proofs.Ytbolfamaffbnnaa
open Go.Ab

section
variable {X : XTab}

def names4 : List ByteArray := [bs [97], bs [98], bs [99], bs [108, 111, 110, 103]]
def texts4 : List ByteArray := [bs [], bs [97], bs [98], bs [97, 98]]

theorem NameH (hX : OnlyKnown X) {h : Heap} {bf k : Nat} (f : Feed h bf k) (hk : k < 2 ^ 61) :
    Tells (fun q => acallX Try.prog X q F_precentorhand_Feed_Name [.ptr bf 0] h) fun r h' => ∃ nm, r = .str nm ∧ nm ∈ names4 ∧ Ext [bf] h h' ∧ Feed h' bf (k + 1) := by
  refine R_precentorhand_Feed_Name _ (hX _ _ rfl) ?_
  refine Tells.prot fun Q' hQ => ?_
  unfold S_precentorhand_Feed_Name
  simp [bldR, fillR, splice]
  refine Tells.bind (Next hX 12 ⟨by decide, by decide⟩ f (by omega)) ?_
  rintro _ h1 ⟨r, rfl, r0, r1, _, x1, f1⟩
  have r1 := r1 (by decide)
  have : r = 0 ∨ r = 1 ∨ r = 2 ∨ r = 3 ∨ r = 4 ∨ r = 5 ∨ r = 6 ∨ r = 7 ∨ r = 8 ∨ r = 9 ∨ r = 10 ∨ r = 11 := by omega
  rcases this with rfl | rfl | rfl | rfl | rfl | rfl | rfl | rfl | rfl | rfl | rfl | rfl
  all_goals
    refine Tells.ok (hQ _ _ ⟨_, rfl, ?_, x1, f1⟩)
    simp [names4]

/-- The zero value. -/
def vlZ : Vl := ⟨0, 0, 0, bs [], false⟩
/-- A test that the feed tells. -/
def FedP (p : Prd) : Prop := p.name ∈ names4 ∧ ((p.test = 1 ∧ p.v = vlZ ∧ p.w = vlZ ∧ p.set = []) ∨ (p.test = 9 ∧ (∃ s, s ∈ texts4 ∧ p.v = ⟨3, 0, 0, s, false⟩) ∧ p.w = vlZ ∧ p.set = []) ∨
  (p.test = 10 ∧ p.v = vlZ ∧ p.w = vlZ ∧ 1 ≤ p.set.length ∧ p.set.length ≤ 4 ∧ ∀ x, x ∈ p.set → FedV x) ∨ (p.test = 8 ∧ FedV p.v ∧ FedV p.w ∧ p.set = []) ∨
  (2 ≤ p.test ∧ p.test ≤ 7 ∧ FedV p.v ∧ p.w = vlZ ∧ p.set = []))

theorem PredH (hX : OnlyKnown X) {h : Heap} {bf k : Nat} (f : Feed h bf k) (hk : k < 2 ^ 60) {nm : ByteArray} (hn : nm ∈ names4) :
    Tells (fun q => acallX Try.prog X q F_precentorhand_Feed_Pred [.ptr bf 0, .str nm] h) fun r h' => ∃ p sv, r = .agg (prC p sv) ∧ p.name = nm ∧ FedP p ∧ Sl vlR h' sv p.set ∧ Wr h h' sv ∧ Ext [bf] h h' ∧ Feed h' bf (k + 12) := by
  refine R_precentorhand_Feed_Pred _ _ (hX _ _ rfl) ?_
  refine Tells.prot fun Q' hQ => ?_
  unfold S_precentorhand_Feed_Pred
  try simp
  refine Tells.new fun h1 br or x1 l1 => ?_
  have hne1 : bf ≠ br := by have := f.lt; omega
  try simp
  refine Tells.bind (Next hX 10 ⟨by decide, by decide⟩ (f.e x1) (by omega)) ?_
  rintro _ h2 ⟨r, rfl, r0, r1, _, x2, f2⟩
  have r1 := r1 (by decide)
  have or2 := or.ext x2 (by simpa using hne1.symm)
  have w : IntKind.i64.wrap (1 + r) = 1 + r := wrap_id (by omega) (by omega)
  simp [bldR, fillR, splice, w]
  refine Tells.newSt (ds := prC ⟨nm, 1 + r, vlZ, vlZ, []⟩ .nils) (by rfl) (by rfl) (by rfl) (by rfl) fun h3 bp op x3 l3 => ?_
  have f3 := f2.e x3
  have or3 := or2.e x3
  have hne2 : bf ≠ bp := by have := f2.lt; omega
  have hne3 : br ≠ bp := by have := or2.lt; omega
  have ll : h.next ≤ br := l1
  have lp : h.next ≤ bp := by have := x1.next; have := x2.next; omega
  have x03 : Ext [bf] h h3 := (x1.of.trans x2).quiet x3
  -- how each way ends
  have fin : ∀ (g : Heap) (p : Prd) (sv : AVal) (K : Nat), K ≤ k + 12 → FedP p → p.name = nm → Ob g bp (prC p sv) → Ob g br [.str (bs []), I 0, I 0, I 0, .flt .f64 0, .str (bs []), .bool false, I 0, I 0, .flt .f64 0, .str (bs []), .bool false, .nils] → Sl vlR g sv p.set → Wr h g sv → Ext [bf] h g → Feed g bf K →
      ∀ (t : T), t 4 = .ptr br 0 → t 5 = .ptr bp 0 → ∀ ty, (∀ h a, aLoad Try.prog h ty a = ldn 13 h a) →
      (Tells (fun m => J_precentorhand_Feed_Pred_1 Try.prog (acallX Try.prog X m) m (retK Try.prog [.cell 4 ty]) t g) Q' ∧
       Tells (fun m => J_precentorhand_Feed_Pred_2 Try.prog (acallX Try.prog X m) m (blkK 0 (sqK (J_precentorhand_Feed_Pred_0 Try.prog (acallX Try.prog X m) m (retK Try.prog [.cell 4 ty])) (retK Try.prog [.cell 4 ty]))) t g) Q') := by
    intro g p sv K hK hp hpn o o' os ws x f t t4 t5 ty hty
    have main : ∀ (h' : Heap), Ob h' br (prC p sv) → Ext [br] g h' → Q' (.agg (prC p sv)) h' := fun h' o2 x2 => hQ _ _ ⟨p, sv, rfl, hpn, hp, os.ext x2, ws.ext x2, x.then x2 fun z hz => .inr (by simp at hz; omega), (f.ext x2 (by simpa using hne1)).mono hK⟩
    constructor
    · simp [J_precentorhand_Feed_Pred_1, t5, t4, o.1]
      refine Tells.stN o' (ds := prC p sv) (by rfl) (by rfl) (by simp [prC, vlC, os.one]) (by rfl) fun h' o2 x2 => ?_
      simp [t4, hty, o2.1, prC, vlC]
      exact Tells.ok (main h' o2 x2)
    · simp [J_precentorhand_Feed_Pred_2, t5, t4, o.1]
      refine Tells.stN o' (ds := prC p sv) (by rfl) (by rfl) (by simp [prC, vlC, os.one]) (by rfl) fun h' o2 x2 => ?_
      simp [t4, hty, o2.1, prC, vlC]
      exact Tells.ok (main h' o2 x2)
  have outS : ∀ (g : Heap) (p : Prd) (K : Nat), K ≤ k + 12 → FedP p → p.name = nm → p.set = [] → Ext [bf] h g → Feed g bf K → ∀ (h' : Heap), Ob h' br (prC p .nils) → Ext [br] g h' → Q' (.agg (prC p .nils)) h' := fun g p K hK hp hpn hs x f h' o2 x2 => hQ _ _ ⟨p, .nils, rfl, hpn, hp, by rw [hs]; exact Sl.nil, fun b hb => by simp [AVal.blks] at hb, x.then x2 fun z hz => .inr (by simp at hz; omega), (f.ext x2 (by simpa using hne1)).mono hK⟩
  by_cases c1 : r = 0
  · subst c1
    simp [prC, vlC, vlZ, op.1]
    refine Tells.stN or3 (ds := prC ⟨nm, 1, vlZ, vlZ, []⟩ .nils) (by rfl) (by rfl) (by rfl) (by rfl) fun h4 o4 x4 => ?_
    simp [C_precentorhand_Feed_Pred_0, o4.1, prC, vlC, vlZ]
    exact Tells.ok (outS h3 ⟨nm, 1, vlZ, vlZ, []⟩ _ (by omega) ⟨hn, .inl ⟨rfl, rfl, rfl, rfl⟩⟩ rfl rfl x03 f3 h4 o4 x4)
  · have e1 : (1 + r == 1) = false := beq_eq_false_iff_ne.2 (by omega)
    by_cases c2 : r = 8
    · subst c2
      simp [prC, vlC, vlZ, op.1]
      refine Tells.bind (Next hX 4 ⟨by decide, by decide⟩ f3 (by omega)) ?_
      rintro _ h4 ⟨u, rfl, u0, u1, _, x4, f4⟩
      have u1 := u1 (by decide)
      have op4 := op.ext x4 (by simpa using hne2.symm)
      have or4 := or3.ext x4 (by simpa using hne1.symm)
      obtain ⟨s, hs, hs2⟩ : ∃ s, s ∈ texts4 ∧ ixa1 4 1 (.agg [.str (bs []), .str (bs [97]), .str (bs [98]), .str (bs [97, 98])]) (I u) = some (.str s) := by
        have : u = 0 ∨ u = 1 ∨ u = 2 ∨ u = 3 := by omega
        rcases this with rfl | rfl | rfl | rfl
        · exact ⟨bs [], by simp [texts4], by rfl⟩
        · exact ⟨bs [97], by simp [texts4], by rfl⟩
        · exact ⟨bs [98], by simp [texts4], by rfl⟩
        · exact ⟨bs [97, 98], by simp [texts4], by rfl⟩
      simp [hs2, bldR, fillR, splice]
      refine Tells.st op4 (by rfl) (by rfl) (by simp [prC, vlC]) fun h5 op5 x5 => ?_
      have op5 : Ob h5 bp (prC ⟨nm, 9, ⟨3, 0, 0, s, false⟩, vlZ, []⟩ .nils) := by simpa [prC, vlC, vlZ, splice] using op5
      have or5 := or4.ext x5 (by simpa using hne3)
      have f5 := f4.ext x5 (by simpa using hne2)
      simp [prC, vlC, vlZ, op5.1]
      refine Tells.stN or5 (ds := prC ⟨nm, 9, ⟨3, 0, 0, s, false⟩, vlZ, []⟩ .nils) (by rfl) (by rfl) (by rfl) (by rfl) fun h6 o6 x6 => ?_
      simp [C_precentorhand_Feed_Pred_0, o6.1, prC, vlC, vlZ]
      have x05 : Ext [bf] h h5 := (x03.trans x4).then x5 fun z hz => .inr (by simp at hz; omega)
      exact Tells.ok (outS h5 ⟨nm, 9, ⟨3, 0, 0, s, false⟩, vlZ, []⟩ _ (by omega) ⟨hn, .inr (.inl ⟨rfl, ⟨s, hs, rfl⟩, rfl, rfl⟩)⟩ rfl rfl x05 f5 h6 o6 x6)
    · have e2 : (1 + r == 9) = false := beq_eq_false_iff_ne.2 (by omega)
      by_cases c3 : r = 9
      · subst c3
        simp [prC, vlC, vlZ, op.1]
        refine Tells.bind (Next hX 4 ⟨by decide, by decide⟩ f3 (by omega)) ?_
        rintro _ h4 ⟨u, rfl, u0, u1, _, x4, f4⟩
        have u1 := u1 (by decide)
        obtain ⟨u, rfl⟩ : ∃ n : Nat, u = n := ⟨u.toNat, by omega⟩
        have op4 := op.ext x4 (by simpa using hne2.symm)
        have or4 := or3.ext x4 (by simpa using hne1.symm)
        try simp
        refine Tells.bind (Tells.loop (fun n t g => ∃ (i : Nat) (sv : AVal) (set : List Vl), t 0 = .ptr bf 0 ∧ t 4 = .ptr br 0 ∧ t 5 = .ptr bp 0 ∧ t 6 = I ((u : Int) - i) ∧ i + n = u + 1 ∧ set.length = i ∧ (∀ x, x ∈ set → FedV x) ∧ Ob g bp (prC ⟨nm, 10, vlZ, vlZ, set⟩ sv) ∧ Ob g br [.str (bs []), I 0, I 0, I 0, .flt .f64 0, .str (bs []), .bool false, I 0, I 0, .flt .f64 0, .str (bs []), .bool false, .nils] ∧ Gl vlR h4 g sv set ∧ Wr h4 g sv ∧ Feed g bf (k + 2 + 2 * i) ∧ Ext [bf, bp] h4 g)
          (Q := fun p g => p.1 = .exit 1 ∧ p.2 4 = .ptr br 0 ∧ p.2 5 = .ptr bp 0 ∧ ∃ (sv : AVal) (set : List Vl), set.length = u + 1 ∧ (∀ x, x ∈ set → FedV x) ∧ Ob g bp (prC ⟨nm, 10, vlZ, vlZ, set⟩ sv) ∧ Ob g br [.str (bs []), I 0, I 0, I 0, .flt .f64 0, .str (bs []), .bool false, I 0, I 0, .flt .f64 0, .str (bs []), .bool false, .nils] ∧ Sl vlR g sv set ∧ Wr h4 g sv ∧ Feed g bf (k + 12) ∧ Ext [bf, bp] h4 g) ?_ (u + 1) _ _ ?_) ?_
        · rintro n t g ⟨i, sv, set, t0, t4, t5, t6, hi, hl, hf, po, ro, gs, ws, fg, xg⟩
          refine Tells.prot fun Q2 hQ2 => ?_
          unfold L_precentorhand_Feed_Pred_3
          have wu : IntKind.i64.wrap ((u : Int) - i - 1) = (u : Int) - i - 1 := wrap_id (by omega) (by omega)
          by_cases hc : i ≤ u
          · have hc' : (0 : Int) ≤ (u : Int) - i := by omega
            have hc2 : (i : Int) ≤ u := by omega
            simp [t6, hc', hc2, J_precentorhand_Feed_Pred_4, t5, t0, po.1, prC, vlC]
            refine Tells.cbE (ValueH hX fg (by omega)) ?_
            rintro _ g1 ⟨x, rfl, hx, x1', f1'⟩
            have po1 := po.ext x1' (by simpa using hne2.symm)
            have ro1 := ro.ext x1' (by simpa using hne1.symm)
            have gs1 := gs.ext x1' (fun b hb q => by simp at q; subst q; have := (gs.1.blk _ hb).1; rw [fg.m] at this; cases this)
            have ws1 := ws.ext x1'
            simp [po1.1, prC, vlC]
            refine Tells.app1WE gs1 ws1 (by rfl) (by rfl) (show vlR.rep g1 (vlC x) x from rfl) (by rfl) (by rfl) (by omega) (by decide) (by have := xg.next; have := x1'.next; omega) fun s3 h3' g3 w3 x3' y3 z3 => ?_
            have po3 := po1.ext x3' (gs1.1.ob po1)
            have ro3 := ro1.ext x3' (gs1.1.ob ro1)
            have f3' := f1'.ext x3' (fun q => by have := (gs1.1.blk _ q).1; rw [f1'.m] at this; cases this)
            try simp
            refine Tells.st1E po3 g3.1.cells g3.1.one (by simp [prC, vlC]) fun h4' po4 x4' => ?_
            have po4 : Ob h4' bp (prC ⟨nm, 10, vlZ, vlZ, set ++ [x]⟩ s3) := by simpa [prC, vlC, vlZ] using po4
            have ro4 := ro3.ext x4' (by simpa using hne3)
            have f4' := f3'.ext x4' (by simpa using hne2)
            simp [J_precentorhand_Feed_Pred_5, t6, wu]
            refine Tells.ok (hQ2 _ _ (.inl ⟨rfl, n - 1, by omega, i + 1, s3, set ++ [x], by simp [t0], by simp [t4], by simp [t5], by simp; omega, by omega, by simp; omega, ?_, po4, ro4, g3.extO x4' (by simpa using .inl po3.2.1), w3.ext x4', f4'.mono (by omega), ?_⟩))
            · intro z hz
              rcases List.mem_append.1 hz with q | q
              · exact hf z q
              · simp at q; subst q; exact hx
            · have x5 := y3 [bf, bp] (xg.trans (x1'.mono (by simp)))
              exact x5.trans (x4'.mono (by simp))
          · have hc' : ¬ (0 : Int) ≤ (u : Int) - i := by omega
            have hc2 : ¬ (i : Int) ≤ u := by omega
            simp [t6, hc', hc2]
            exact Tells.ok (hQ2 _ _ (.inr ⟨by simp, rfl, by simp [t4], by simp [t5], sv, set, by omega, hf, po, ro, gs.1, ws, fg.mono (by omega), xg⟩))
        · exact ⟨0, .nils, [], by simp, by simp, by simp, by simp, by omega, rfl, by simp, by simpa [prC, vlC, vlZ] using op4, or4, Gl.nil, fun b hb => by simp [AVal.blks] at hb, by simpa using f4, .refl⟩
        · rintro ⟨ex, t⟩ g ⟨rfl, t4, t5, sv, set, hl, hf, po, ro, gs, ws, fg, xg⟩
          refine (fin g ⟨nm, 10, vlZ, vlZ, set⟩ sv (k + 12) (Nat.le_refl _) ⟨hn, .inr (.inr (.inl ⟨rfl, rfl, rfl, by show 1 ≤ set.length; omega, by show set.length ≤ 4; omega, hf⟩))⟩ rfl po ro gs (ws.back (by have := x03.next; have := x4.next; omega)) ?_ fg t t4 t5 _ C_precentorhand_Feed_Pred_0).2
          exact (x03.trans x4).then xg fun z hz => by simp at hz; rcases hz with rfl | rfl; exact .inl (by simp); exact .inr lp
      · have e3 : (1 + r == 10) = false := beq_eq_false_iff_ne.2 (by omega)
        simp [prC, vlC, vlZ, op.1, e1, e2, e3, J_precentorhand_Feed_Pred_0]
        refine Tells.bind (ValueH hX f3 (by omega)) ?_
        rintro _ h4 ⟨x, rfl, hx, x4, f4⟩
        have op4 := op.ext x4 (by simpa using hne2.symm)
        have or4 := or3.ext x4 (by simpa using hne1.symm)
        try simp
        refine Tells.st op4 (by rfl) (by rfl) (by simp [prC, vlC]) fun h5 op5 x5 => ?_
        have op5 : Ob h5 bp (prC ⟨nm, 1 + r, x, vlZ, []⟩ .nils) := by simpa [prC, vlC, vlZ, splice] using op5
        have or5 := or4.ext x5 (by simpa using hne3)
        have f5 := f4.ext x5 (by simpa using hne2)
        have x05 : Ext [bf] h h5 := (x03.trans x4).then x5 fun z hz => .inr (by simp at hz; omega)
        by_cases c4 : r = 7
        · subst c4
          simp [prC, vlC, vlZ, op5.1]
          refine Tells.bind (ValueH hX f5 (by omega)) ?_
          rintro _ h6 ⟨y, rfl, hy, x6, f6⟩
          have op6 := op5.ext x6 (by simpa using hne2.symm)
          have or6 := or5.ext x6 (by simpa using hne1.symm)
          try simp
          refine Tells.st op6 (by rfl) (by rfl) (by simp [prC, vlC]) fun h7 op7 x7 => ?_
          have op7 : Ob h7 bp (prC ⟨nm, 8, x, y, []⟩ .nils) := by simpa [prC, vlC, vlZ, splice] using op7
          have or7 := or6.ext x7 (by simpa using hne3)
          have f7 := f6.ext x7 (by simpa using hne2)
          have x07 : Ext [bf] h h7 := (x05.trans x6).then x7 fun z hz => .inr (by simp at hz; omega)
          exact (fin h7 ⟨nm, 8, x, y, []⟩ .nils _ (by omega) ⟨hn, .inr (.inr (.inr (.inl ⟨rfl, hx, hy, rfl⟩)))⟩ rfl op7 or7 Sl.nil (fun b hb => by simp [AVal.blks] at hb) x07 f7 _ (by simp) (by simp) _ C_precentorhand_Feed_Pred_0).1
        · have e4 : (1 + r == 8) = false := beq_eq_false_iff_ne.2 (by omega)
          simp [prC, vlC, vlZ, op5.1, e4]
          exact (fin h5 ⟨nm, 1 + r, x, vlZ, []⟩ .nils _ (by omega) ⟨hn, .inr (.inr (.inr (.inr ⟨by show 2 ≤ 1 + r; omega, by show 1 + r ≤ 7; omega, hx, rfl, rfl⟩)))⟩ rfl op5 or5 Sl.nil (fun b hb => by simp [AVal.blks] at hb) x05 f5 _ (by simp) (by simp) _ C_precentorhand_Feed_Pred_0).1
end
end Go.Proofs.Ytbolfamaffbnnaa

/-! A feed lives through a write into a row. -/
namespace Go.Proofs.Ytbolfamaffbnnaa
open Go.Ab
theorem Feed.extCX {b : Nat} {h h' : Heap} {bf k : Nat} (f : Feed h bf k) (x : ExtC b h h') (hm : h.isM b = false) (hn : h.n0 ≤ b) : Feed h' bf k := by
  obtain ⟨L, a, xs, h1, h2, h3, h4, h5, h6⟩ := f
  have ap : Apart h b L := fun c hc => by
    have := h6 c hc
    refine ⟨by omega, fun r _ q => ?_⟩
    have := Heap.cls_eq q
    omega
  exact ⟨L, a, xs, h1.extC x hm, h2, h3, h4.extC (fun q => q) x ap, h5, by rw [x.n0]; exact h6⟩
end Go.Proofs.Ytbolfamaffbnnaa

/-! The filter of the feed (printed by mk22.py). -/
namespace Go.Proofs.Ytbolfamaffbnnaa
open Go.Ab

section
variable {X : XTab}

def nmLe (a b : ByteArray) : Bool := Op.bytesLess a.toList b.toList || a.toList == b.toList

theorem nm_total : ∀ a, a ∈ names4 → ∀ b, b ∈ names4 → nmLe a b = false → nmLe b a = true := by decide +kernel

theorem nm_trans : ∀ a, a ∈ names4 → ∀ b, b ∈ names4 → ∀ c, c ∈ names4 → nmLe a b = true → nmLe b c = true → nmLe a c = true := by decide +kernel

def FedF (fl : List Prd) : Prop := fl.length ≤ 3 ∧ (∀ p, p ∈ fl → FedP p) ∧ fl.Pairwise fun p q => nmLe p.name q.name = true

theorem FedF.nil : FedF [] := ⟨by simp, by simp, by simp⟩

theorem FedP.set_le {p : Prd} (h : FedP p) : p.set.length ≤ 4 := by
  obtain ⟨_, h | h | h | h | h⟩ := h
  · rw [h.2.2.2]; simp
  · rw [h.2.2.2]; simp
  · exact h.2.2.2.2.1
  · rw [h.2.2.2]; simp
  · rw [h.2.2.2.2]; simp

theorem FedF.ins {l : List Prd} {p : Prd} {j : Nat} (h : FedF l) (hp : FedP p) (h2 : l.length < 3) (hj : j ≤ l.length) (hi : ∀ x, x ∈ l.drop j → nmLe x.name p.name = false) (lo : 0 < j → ∀ x, l[j - 1]? = some x → nmLe x.name p.name = true) : FedF (l.take j ++ p :: l.drop j) := by
  obtain ⟨k1, k2, k3⟩ := h
  have up : ∀ x, x ∈ l.drop j → nmLe p.name x.name = true := fun x hx => nm_total _ (k2 x (List.mem_of_mem_drop hx)).1 _ hp.1 (hi x hx)
  have dn : ∀ x, x ∈ l.take j → nmLe x.name p.name = true := fun x hx => by
    by_cases h0 : 0 < j
    · have hlt : j - 1 < l.length := by omega
      have hl := List.getElem?_eq_getElem hlt
      have h3 := lo h0 _ hl
      obtain ⟨m, hm, e⟩ := List.getElem_of_mem hx
      simp at hm
      rw [List.getElem_take] at e
      by_cases hmj : m = j - 1
      · subst hmj; rw [← e]; exact h3
      · have := List.pairwise_iff_getElem.1 k3 m (j - 1) (by omega) hlt (by omega)
        rw [e] at this
        exact nm_trans _ (k2 x (List.mem_of_mem_take hx)).1 _ (k2 _ (List.getElem_mem hlt)).1 _ hp.1 this h3
    · have : j = 0 := by omega
      subst this
      simp at hx
  refine ⟨by simp; omega, fun x hx => ?_, ?_⟩
  · rcases List.mem_append.1 hx with q | q
    · exact k2 x (List.mem_of_mem_take q)
    · rcases List.mem_cons.1 q with q | q
      · rw [q]; exact hp
      · exact k2 x (List.mem_of_mem_drop q)
  · rw [List.pairwise_append]
    refine ⟨k3.take, List.pairwise_cons.2 ⟨up, k3.drop⟩, fun a ha b hb => ?_⟩
    rcases List.mem_cons.1 hb with q | q
    · rw [q]; exact dn a ha
    · rw [← List.take_append_drop j l, List.pairwise_append] at k3
      exact k3.2.2 a ha b q

theorem ins_list {α : Type} {l : List α} {z p : α} {j : Nat} (hj : j ≤ l.length) : ((l ++ [z]).take (j + 1) ++ ((l ++ [z]).drop j).take ((l ++ [z]).length - (j + 1))).set j p = l.take j ++ p :: l.drop j := by
  have e1 : ((l ++ [z]).drop j).take ((l ++ [z]).length - (j + 1)) = l.drop j := by
    rw [List.drop_append_of_le_length hj, List.take_append_of_le_length (by simp), List.take_of_length_le (by simp)]
  have e2 : ((l ++ [z]).take (j + 1)).length = j + 1 := by simp; omega
  have e3 : ((l ++ [z]).take (j + 1)).drop (j + 1) = [] := List.drop_eq_nil_of_le (by omega)
  rw [e1, List.set_append, if_pos (by omega), List.set_eq_take_append_cons_drop, if_pos (by omega), e3, List.take_take, Nat.min_eq_left (by omega), List.take_append_of_le_length hj]
  simp

def zeroP : Prd := ⟨bs [], 0, vlZ, vlZ, []⟩

theorem FilterH (hX : OnlyKnown X) {h : Heap} {bf k : Nat} (f : Feed h bf k) (hk : k < 2 ^ 59) :
    Tells (fun q => acallX Try.prog X q F_precentorhand_Feed_Filter [.ptr bf 0] h) fun r h' => ∃ fl, RowZ prF h.next h h' r fl ∧ FedF fl ∧ Ext [bf] h h' ∧ Feed h' bf (k + 60) := by
  refine R_precentorhand_Feed_Filter _ (hX _ _ rfl) ?_
  refine Tells.prot fun Q' hQ => ?_
  unfold S_precentorhand_Feed_Filter
  try simp
  refine Tells.bind (Next hX 4 ⟨by decide, by decide⟩ f (by omega)) ?_
  rintro _ h1 ⟨u, rfl, u0, u1, _, x1, f1⟩
  have u1 := u1 (by decide)
  have n1 := x1.next
  try simp
  refine Tells.bind (Tells.loop (fun n t g => ∃ (i : Nat) (l : List Prd), t 0 = .ptr bf 0 ∧ t 4 = I (u - i) ∧ (i : Int) ≤ u ∧ i + n = 5 ∧ RowZ prF h.next h g (t 3) l ∧ FedF l ∧ Ext [bf] h g ∧ Feed g bf (k + 1 + 14 * i))
    (Q := fun p g => p.1 = .exit 0 ∧ ∃ l : List Prd, RowZ prF h.next h g (p.2 3) l ∧ FedF l ∧ Ext [bf] h g ∧ Feed g bf (k + 60)) ?_ 5 _ _ ⟨0, [], by simp, by simp, by simp; omega, by omega, by simpa using RowZ.nil, FedF.nil, x1, by simpa using f1⟩) ?_
  · rintro n t g ⟨i, l, t0, t4, hiu, hi, rz, fl, xg, fg⟩
    refine Tells.prot fun Q2 hQ2 => ?_
    unfold L_precentorhand_Feed_Filter_1
    have ng := xg.next
    by_cases hc : 0 < u - i ∧ l.length < 3
    · obtain ⟨hc1, hc2⟩ := hc
      have hc3 : (i : Int) < u := by omega
      have hc4 : ((l.length : Int) < 3) := by omega
      simp [t4, hc1, hc3, rz.len, hc4, hc2, J_precentorhand_Feed_Filter_2, t0]
      refine Tells.bind (NameH hX fg (by omega)) ?_
      rintro _ g1 ⟨nm, rfl, hnm, y1, e1⟩
      have rz1 := rz.extO y1 (by simpa using .inl fg.m)
      have m1 := y1.next
      try simp [t0]
      refine Tells.bind (PredH hX e1 (by omega) hnm) ?_
      rintro _ g2 ⟨p, sv, rfl, hpn, hp, os, ws, y2, e2⟩
      have rz2 := rz1.extO y2 (by simpa using .inl e1.m)
      have m2 := y2.next
      try simp
      refine Tells.newSt (ds := prC p sv) (by rfl) (by rfl) (by rfl) (by simp [prC, vlC, os.one]) fun g3 bp op y3 l3 => ?_
      have rz3 := rz2.e y3
      have m3 := y3.next
      have hne : bf ≠ bp := by have := e2.lt; omega
      have e3 := e2.e y3
      have os3 := os.ext y3
      have X3 : Ext [bf] h g3 := ((xg.trans y1).trans y2).quiet y3
      have svn : ∀ d, d ∈ sv.blks → ¬ g3.isRoot (t 3) (g3.root d) ∧ h.next ≤ g3.root d ∧ g3.root d < g3.next := fun d hd => by
        obtain ⟨w1, w2, w3⟩ := ws d hd
        rw [root_ext y3 w3]
        have := root_le g2 d
        refine ⟨?_, by omega, by omega⟩
        rintro ⟨d', hd', e⟩
        have k3 := (rz1.1 d' hd').2.2
        rw [root_ext y3 (by omega), root_ext y2 k3] at e
        have k2 := root_le g1 d'
        omega
      try simp only [rz3.len, of_some, arb_val, lt_eq]
      try simp
      refine Tells.bind (Tells.loop (fun n t' g' => g' = g3 ∧ ∃ j : Nat, t' 0 = .ptr bf 0 ∧ t' 3 = t 3 ∧ t' 4 = I (u - i) ∧ t' 5 = .str nm ∧ t' 6 = .ptr bp 0 ∧ t' 7 = I j ∧ j = n ∧ j ≤ l.length ∧ ∀ x, x ∈ l.drop j → nmLe x.name nm = false)
        (Q := fun r g' => g' = g3 ∧ r.1 = .exit 2 ∧ ∃ j : Nat, r.2 0 = .ptr bf 0 ∧ r.2 3 = t 3 ∧ r.2 4 = I (u - i) ∧ r.2 5 = .str nm ∧ r.2 6 = .ptr bp 0 ∧ r.2 7 = I j ∧ j ≤ l.length ∧ (∀ x, x ∈ l.drop j → nmLe x.name nm = false) ∧ (0 < j → ∀ x, l[j - 1]? = some x → nmLe x.name nm = true)) ?_ l.length _ _ ⟨rfl, l.length, by simp [t0], by simp, by simp [t4], by simp, by simp, by simp, rfl, Nat.le_refl _, by simp⟩) ?_
      · rintro n' t' g' ⟨rfl, j, a0, a3, a4, a5, a6, a7, rfl, hj, hall⟩
        refine Tells.prot fun Q3 hQ3 => ?_
        unfold L_precentorhand_Feed_Filter_5
        by_cases h0 : 0 < j
        · obtain ⟨x, hx⟩ : ∃ x, l[j - 1]? = some x := ⟨_, List.getElem?_eq_getElem (by omega)⟩
          obtain ⟨b, q, B, c, q1, q2, sv', rfl, _⟩ := rz3.at (n := 13) rfl hx
          have w : IntKind.i64.wrap ((j : Int) - 1) = ((j - 1 : Nat) : Int) := by rw [wrap_id (by omega) (by omega)]; omega
          have q4 := q2.cell0 (by simp [prC])
          simp [prC] at q4
          have h0' : (0 : Int) < j := by omega
          simp [a7, h0, h0', a3, w, q1, q2.get, q4, a5]
          cases hle : nmLe x.name nm with
          | false =>
            have hle2 : (Op.bytesLess x.name.toList nm.toList || x.name.toList == nm.toList) = false := hle
            simp only [Bool.or_eq_false_iff] at hle2
            simp [hle2.1, hle2.2, J_precentorhand_Feed_Filter_6, a7, w]
            refine Tells.ok (hQ3 _ _ (.inl ⟨rfl, j - 1, by omega, rfl, j - 1, by simp [a0], by simp [a3], by simp [a4], by simp [a5], by simp [a6], by simp, rfl, by omega, fun z hz => ?_⟩))
            rw [List.drop_eq_getElem_cons (by omega), List.mem_cons] at hz
            rcases hz with q | q
            · rw [(List.getElem?_eq_some_iff.1 hx).2] at q
              rw [q]; exact hle
            · rw [show j - 1 + 1 = j by omega] at q
              exact hall z q
          | true =>
            have hle2 : (Op.bytesLess x.name.toList nm.toList || x.name.toList == nm.toList) = true := hle
            have done : ∀ t2 : T, t2 0 = t' 0 → t2 3 = t' 3 → t2 4 = t' 4 → t2 5 = t' 5 → t2 6 = t' 6 → t2 7 = t' 7 → Q3 (.exit 2, t2) g' := fun t2 b0 b3 b4 b5 b6 b7 => hQ3 _ _ (.inr ⟨by simp, rfl, rfl, j, b0.trans a0, b3.trans a3, b4.trans a4, b5.trans a5, b6.trans a6, b7.trans a7, hj, hall, fun _ z hz => by rw [hx] at hz; cases hz; exact hle⟩)
            rcases Bool.or_eq_true _ _ ▸ hle2 with q | q
            · simp [q]
              exact Tells.ok (done _ (by simp) (by simp) (by simp) (by simp) (by simp) (by simp))
            · simp [q]
              exact Tells.ok (done _ (by simp) (by simp) (by simp) (by simp) (by simp) (by simp))
        · have h0' : ¬ (0 : Int) < j := by omega
          simp [a7, h0, h0']
          exact Tells.ok (hQ3 _ _ (.inr ⟨by simp, rfl, rfl, j, by simp [a0], by simp [a3], by simp [a4], by simp [a5], by simp [a6], by simp [a7], hj, hall, fun q => absurd q h0⟩))
      · rintro ⟨ex, t'⟩ g' ⟨rfl, rfl, j, a0, a3, a4, a5, a6, a7, hj, hall, hlo⟩
        have a0 : t' 0 = .ptr bf 0 := a0
        have a3 : t' 3 = t 3 := a3
        have a4 : t' 4 = I (u - i) := a4
        have a6 : t' 6 = .ptr bp 0 := a6
        have a7 : t' 7 = I j := a7
        rw [← a3] at rz3 svn
        have wj : IntKind.i64.wrap ((j : Int) + 1) = (j : Int) + 1 := wrap_id (by omega) (by omega)
        have wu : IntKind.i64.wrap (u - (i : Int) - 1) = u - (i : Int) - 1 := wrap_id (by omega) (by omega)
        simp [J_precentorhand_Feed_Filter_4, bldR, fillR, splice]
        refine Tells.appZR rz3 (by rfl) (by rfl) (x := zeroP) (c := prC zeroP .nils) ⟨.nils, rfl, SlN.nil, fun c hc => by simp [AVal.blks] at hc⟩ (by rfl) (by rfl) (by omega) (by decide) (by omega) fun s4 g4 rz4 y4 z4 nr4 => ?_
        have m4 := y4.next
        have op4 := op.ext y4 (rz3.2.1.ob op)
        have e4 := e3.ext y4 (fun q => by have := (rz3.2.1.blk _ q).1; rw [e3.m] at this; cases this)
        have X4 := z4 [bf] X3
        obtain ⟨b5, d5, c5, v5, k1, k2, k3, k4, k5, g5, r5, k6, k7, rz5⟩ := rz4.cpy (n := 13) rfl (i := j) (by simp; omega)
        simp [a7, wj, k4, k5, k6]
        have op5 : Ob g5 bp (prC p sv) := op4.extC k7 k1
        have e5 := e4.extCX k7 k1 k3
        have os4 := os3.ext y4
        have ap5 : Apart g4 b5 sv := Apart.of fun c hc q => by
          obtain ⟨s1, s2, s3⟩ := svn c hc
          refine nr4 _ s3 s1 ⟨b5, by rw [v5]; simp, ?_⟩
          rw [← q, root_ext y4 (os3.blk c hc).2]
        have os5 : Sl vlR g5 sv p.set := os4.extC (fun q => q) k7 ap5
        have rep5 : (prF.r fun q => ¬ g5.isRoot s4 q ∧ h.next ≤ q).rep g5 (prC p sv) p := ⟨sv, rfl, .inl os5, fun c hc => by
          obtain ⟨s1, s2, s3⟩ := svn c hc
          have er : g5.root c = g'.root c := by
            unfold Heap.root
            rw [k7.cls, y4.cls c (os3.blk c hc).2]
          rw [er]
          refine ⟨fun ⟨d, hd, e⟩ => nr4 _ s3 s1 ⟨d, hd, ?_⟩, s2⟩
          rw [e]
          unfold Heap.root
          rw [k7.cls]⟩
        obtain ⟨b6, q6, v6, i1, i2, i3, i4, i5, g6, i6, i7, rz6⟩ := rz5.putE (n := 13) rfl (i := j) (by simp; omega) rep5
        rw [ins_list hj] at rz6
        simp [a6, op5.1, a7, i5, i6 (.agg (prC p sv)) rfl, prC, vlC]
        have i6' := i6 (.agg (prC p sv)) rfl
        simp only [prC, vlC, List.cons_append, List.nil_append] at i6'
        simp [i6', J_precentorhand_Feed_Filter_3, a4, wu]
        have F6 : FedF (l.take j ++ p :: l.drop j) := fl.ins hp hc2 hj (by rw [hpn]; exact hall) (by rw [hpn]; exact hlo)
        refine Tells.ok (hQ2 _ _ (.inl ⟨rfl, n - 1, by omega, i + 1, _, by simp [a0], by simp; omega, by omega, by omega, by simpa using rz6, F6, (X4.extC k7 k2).extC i7 i3, (e5.extCX i7 i1 i4).mono (by omega)⟩))
    · have fin : ∀ t' : T, t' 3 = t 3 → Q2 (.exit 0, t') g := fun t' a3 => hQ2 _ _ (.inr ⟨by simp, rfl, l, by show RowZ prF h.next h g (t' 3) l; rw [a3]; exact rz, fl, xg, fg.mono (by omega)⟩)
      by_cases q : 0 < u - (i : Int)
      · have q2 : ¬ (l.length < 3) := fun k => hc ⟨q, k⟩
        have q3 : ¬ ((l.length : Int) < 3) := by omega
        have q4 : (i : Int) < u := by omega
        simp [t4, q, q4, rz.len, q2, q3]
        exact Tells.ok (fin _ (by simp))
      · have q4 : ¬ (i : Int) < u := by omega
        simp [t4, q, q4]
        exact Tells.ok (fin _ (by simp))
  · rintro ⟨ex, t⟩ g ⟨rfl, l, rz, fl, xg, fg⟩
    simp [J_precentorhand_Feed_Filter_0]
    exact Tells.ok (hQ _ _ ⟨l, by simpa using rz, fl, xg, fg⟩)

end
end Go.Proofs.Ytbolfamaffbnnaa

/-! Law DeskTells: the state between two questions; each question. -/
namespace Go.Proofs.Ytbolfamaffbnnaa
open Go.Ab

theorem RawP.ext {S : List Nat} {h h' : Heap} {v : AVal} {l : List Prd} (o : RawP h v l) (e : Ext S h h') : RawP h' v l := ⟨o.sl.ext e, o.sz, o.len⟩
/-- What is no desk: pending, now, what was handed in, the feed. -/
structure DR (h0 g : Heap) (bf : Nat) (rawv : AVal) (raws : List Prd) (pv nv : AVal) (pend : List Cg) (now : List Sx) (K : Nat) : Prop where
  gp : Gl cgR h0 g pv pend
  sn : Sl sxR g nv now
  rw_ : RawP g rawv raws
  f : Feed g bf K
theorem DR.ext {S : List Nat} {h0 g g' : Heap} {bf : Nat} {rawv : AVal} {raws : List Prd} {pv nv : AVal} {pend : List Cg} {now : List Sx} {K : Nat} (r : DR h0 g bf rawv raws pv nv pend now K) (x : Ext S g g') (h1 : bf ∉ S) (h2 : ∀ y, y ∈ pv.blks → y ∉ S) : DR h0 g' bf rawv raws pv nv pend now K :=
  ⟨r.gp.ext x h2, r.sn.ext x, r.rw_.ext x, r.f.ext x h1⟩
/-- How much the clients have. -/
structure ClB (i : Nat) (x : Cl) : Prop where
  l0 : 0 ≤ x.last
  l1 : x.last ≤ i
  lg : x.log.length ≤ i
  at_ : ∀ y, y ∈ x.log → y.ats.length ≤ 100
  sb : x.subs.length ≤ 1000
theorem ClB.up {i : Nat} {x : Cl} (h : ClB i x) : ClB (i + 1) x := ⟨h.l0, by have := h.l1; omega, by have := h.lg; omega, h.at_, h.sb⟩
structure DX (i : Nat) (xs : List Cl) : Prop where
  z : ∀ y, xs[0]? = some y → y.here = false
  s : ∀ (c : Nat) (x : Cl), xs[c]? = some x → ClB i x
theorem DX.up {i : Nat} {xs : List Cl} (h : DX i xs) : DX (i + 1) xs := ⟨h.z, fun c x hx => (h.s c x hx).up⟩
theorem DX.set {i : Nat} {xs : List Cl} {c : Nat} {x x' : Cl} (h : DX i xs) (hx : xs[c]? = some x) (hb : ClB (i + 1) x') (hz : c = 0 → x'.here = false) : DX (i + 1) (xs.set c x') := by
  refine ⟨fun y hy => ?_, fun c1 x1 h1 => ?_⟩
  · rw [List.getElem?_set] at hy
    by_cases q : c = 0
    · rw [if_pos q] at hy
      split at hy
      · cases hy; exact hz q
      · cases hy
    · rw [if_neg q] at hy; exact h.z y hy
  · rw [List.getElem?_set] at h1
    by_cases q : c = c1
    · rw [if_pos q] at h1
      split at h1
      · cases h1; exact hb
      · cases h1
    · rw [if_neg q] at h1; exact (h.s c1 x1 h1).up
structure SzPN (pend : List Cg) (now : List Sx) (i : Nat) : Prop where
  n : pend.length + now.length ≤ i
  p : ∀ g, g ∈ pend → SzF g.s.fl
  s : ∀ s, s ∈ now → SzF s.fl
/-- All of it. -/
structure DI (h0 g : Heap) (bf b d : Nat) (br : Int) (rawv : AVal) (raws : List Prd) (pv nv : AVal) (i K : Nat) (ss : List Seat) (rs : List Rc) (xs : List Cl) (pend : List Cg) (now : List Sx) : Prop where
  p : DeskP pv h0 g b br ss xs
  q : DeskD g d br rs xs
  x : DX i xs
  r : DR h0 g bf rawv raws pv nv pend now K
  z : SzPN pend now i
  le : h0.next ≤ g.next
  n1 : b ≠ d
  n2 : bf ≠ b
  n3 : bf ≠ d
/-- Its frame. -/
structure TF (t : T) (rawv pv nv : AVal) (bf b d i c : Nat) : Prop where
  t2 : t 2 = rawv
  t7 : t 7 = .ptr bf 0
  t8 : t 8 = .ptr b 0
  t9 : t 9 = .ptr d 0
  t10 : t 10 = pv
  t11 : t 11 = nv
  t12 : t 12 = I i
  t13 : t 13 = I c

section
variable {h0 g g' : Heap} {bf b d : Nat} {br : Int} {rawv : AVal} {raws : List Prd} {pv nv : AVal} {i K : Nat} {ss : List Seat} {rs : List Rc} {xs : List Cl} {pend : List Cg} {now : List Sx}
theorem DI.gd (o : DI h0 g bf b d br rawv raws pv nv i K ss rs xs pend now) {S : List Nat} (hS : ∀ y, y ∈ S → g.isM y = true ∨ g.next ≤ y) : ∀ y, y ∈ pv.blks → y ∉ S := fun y hy q => by
  obtain ⟨k1, k2⟩ := o.r.gp.1.blk y hy
  rcases hS y q with z | z
  · rw [k1] at z; cases z
  · omega
/-- New blocks alone are written. -/
theorem DI.tmp (o : DI h0 g bf b d br rawv raws pv nv i K ss rs xs pend now) {S : List Nat} (e : Ext S g g') (hS : ∀ y, y ∈ S → g.next ≤ y) : DI h0 g' bf b d br rawv raws pv nv i K ss rs xs pend now := by
  have hb := o.p.o.lt
  have hd := o.q.o.lt
  have hf := o.r.f.lt
  exact ⟨o.p.ext e (fun q => by have := hS _ q; omega) (fun y hy => .inr (.inl (hS y hy))), o.q.ext e (fun q => by have := hS _ q; omega), o.x, o.r.ext e (fun q => by have := hS _ q; omega) (o.gd fun y hy => .inr (hS y hy)), o.z, Nat.le_trans o.le e.next, o.n1, o.n2, o.n3⟩
theorem DI.e (o : DI h0 g bf b d br rawv raws pv nv i K ss rs xs pend now) (e : Ext [] g g') : DI h0 g' bf b d br rawv raws pv nv i K ss rs xs pend now := o.tmp e (by simp)
/-- The feed moved. -/
theorem DI.feed (o : DI h0 g bf b d br rawv raws pv nv i K ss rs xs pend now) (e : Ext [bf] g g') {K' : Nat} (f : Feed g' bf K') : DI h0 g' bf b d br rawv raws pv nv i K' ss rs xs pend now := by
  have hS : ∀ y, y ∈ [bf] → g.isM y = true := fun y hy => by simp at hy; subst hy; exact o.r.f.m
  exact ⟨o.p.ext e (by simpa using o.n2.symm) (fun y hy => .inl (hS y hy)), o.q.ext e (by simpa using o.n3.symm), o.x, ⟨o.r.gp.ext e (o.gd fun y hy => .inl (hS y hy)), o.r.sn.ext e, o.r.rw_.ext e, f⟩, o.z, Nat.le_trans o.le e.next, o.n1, o.n2, o.n3⟩
/-- The program's desk answered. -/
theorem DI.prog (o : DI h0 g bf b d br rawv raws pv nv i K ss rs xs pend now) {S : List Nat} (e : Ext S g g') (hS : ∀ y, y ∈ S → y = b ∨ (g.isM y = false ∧ y ∉ pv.blks)) : DeskD g' d br rs xs ∧ DR h0 g' bf rawv raws pv nv pend now K ∧ h0.next ≤ g'.next := by
  refine ⟨o.q.ext e fun q => ?_, o.r.ext e (fun q => ?_) fun y hy q => ?_, Nat.le_trans o.le e.next⟩
  · rcases hS _ q with z | z
    · exact o.n1 z.symm
    · have := o.q.o.2.1; rw [z.1] at this; cases this
  · rcases hS _ q with z | z
    · exact o.n2 z
    · have := o.r.f.m; rw [z.1] at this; cases this
  · rcases hS _ q with z | z
    · subst z
      have := (o.r.gp.1.blk _ hy).1
      rw [o.p.o.2.1] at this; cases this
    · exact z.2 hy
end
end Go.Proofs.Ytbolfamaffbnnaa

/-! Law DeskTells: a question of Subscribe. -/
namespace Go.Proofs.Ytbolfamaffbnnaa
open Go.Ab

section
variable {X : XTab} {h0 g : Heap} {bf b d : Nat} {br : Int} {rawv : AVal} {raws : List Prd} {pv nv : AVal} {i K : Nat} {ss : List Seat} {rs : List Rc} {xs : List Cl} {pend : List Cg} {now : List Sx}
  {t : T} {c : Nat} {KK : Nat → Kn (Ex × T)} {Q : Ex × T → Heap → Prop}

/-- What comes behind a question. -/
def After (h0 : Heap) (bf b d : Nat) (br : Int) (rawv : AVal) (raws : List Prd) (i c K : Nat) (KK : Nat → Kn (Ex × T)) (Q : Ex × T → Heap → Prop) : Prop :=
  ∀ (t' : T) (g' : Heap) (pv' nv' : AVal) (ss' : List Seat) (rs' : List Rc) (xs' : List Cl) (pend' : List Cg) (now' : List Sx) (K' : Nat), TF t' rawv pv' nv' bf b d i c → t' 14 = .bool true → DI h0 g' bf b d br rawv raws pv' nv' (i + 1) K' ss' rs' xs' pend' now' → K' ≤ K + 200 → Tells (fun m => KK m .normal t' g') Q

/-- A change that both tell is pending, if it is right. -/
theorem pend_add (hX : OnlyKnown X) {h1 g1 : Heap} {cg : Cg} {va vb : AVal} (oa : SlN prR g1 va cg.s.fl) (ob : SlN prR g1 vb cg.s.fl) (sz : SzF cg.s.fl) : SzX cg.s := ⟨sz.1, sz.2⟩

theorem op_sub (hX : OnlyKnown X) (o : DI h0 g bf b d br rawv raws pv nv i K ss rs xs pend now) (tf : TF t rawv pv nv bf b d i c) (hc : c < 7) (hi : i < 60) {fv : AVal} {fl : List Prd} (t15 : t 15 = fv) (of_ : SlN prR g fv fl) (lf : fl.length ≤ 1000) (sz : ∀ q, q ∈ fl → SzN q)
    {K0 : Nat} (hk0 : K ≤ K0 + 90) (hK : After h0 bf b d br rawv raws i c K0 KK Q) : Tells (fun m => J_precentorlaw22_DeskTells_14 Try.prog (acallX Try.prog X m) m (KK m) t g) Q := by
  obtain ⟨t2, t7, t8, t9, t10, t11, t12, t13⟩ := tf
  obtain ⟨x, hx⟩ : ∃ x, xs[c]? = some x := ⟨_, List.getElem?_eq_getElem (by rw [o.p.l2]; exact hc)⟩
  have cb := o.x.s c x hx
  have hz : c = 0 → x.here = false := fun q => by subst q; exact o.x.z x hx
  have hg : 0 ≤ x.last ∧ x.last < 2 ^ 61 := ⟨cb.l0, by have := cb.l1; omega⟩
  simp [J_precentorlaw22_DeskTells_14, t8, t13, t15]
  refine Tells.bind (p_Sub hX o.p hx hz hg of_ lf sz) ?_
  rintro _ g1 ⟨⟨va, rfl, oa⟩, ⟨ss', p1⟩, e1⟩
  obtain ⟨q1, r1, le1⟩ := o.prog e1 (fun y hy => .inl (by simpa using hy))
  have of1 := of_.ext e1
  generalize hE : subE x (rightFl fl) = e at *
  have hcg : SzF (subG br c x fl e).s.fl := by
    unfold subG
    split
    · rename_i h0'
      have hr : rightFl fl = true := by
        rw [h0'] at hE
        unfold subE at hE
        repeat' split at hE
        all_goals first | (exact absurd hE (by decide)) | skip
        rename_i a1 a2 a3 a4
        simpa using a2
      exact rightFl_sz hr
    · exact ⟨by simp [cg0], by simp [cg0]⟩
  generalize hG : subG br c x fl e = cg at *
  simp [extR]
  refine Tells.newSt (ds := cgC cg va) (by rfl) (by rfl) (by rfl) (by simp [cgC, sxC, oa.one]) fun g2 ba o2 x2 l2 => ?_
  have q2 := q1.e x2
  simp [t9, t13, t15]
  refine Tells.bind (d_Sub hX q2 hx hz hg (of1.ext x2) lf sz) ?_
  rw [hE, hG]
  rintro _ g3 ⟨⟨vb, rfl, ob⟩, ⟨rs', q3⟩, e3⟩
  have hd1 := o.q.o.lt
  have hb1 := o.p.o.lt
  have n1 := e1.next
  have n2 := x2.next
  have p2 := p1.e x2
  have p3 := p2.ext e3 (by simpa using o.n1) (fun y hy => .inl (by simp at hy; subst hy; exact q2.o.2.1))
  have r2 := r1.ext x2 (by simp) (by simp)
  have dpv : ∀ y, y ∈ pv.blks → y ∉ [d] := fun y hy q => by
    simp at q; subst q
    have := (r2.gp.1.blk _ hy).1
    rw [q2.o.2.1] at this; cases this
  have r3 := r2.ext e3 (by simpa using o.n3) dpv
  have o23 := o2.ext e3 (by simp; omega)
  have oa3 := (oa.ext x2).ext e3
  simp [extR]
  refine Tells.newSt (ds := cgC cg vb) (by rfl) (by rfl) (by rfl) (by simp [cgC, sxC, ob.one]) fun g4 bb o4 x4 l4 => ?_
  have o24' := (o23.e x4).1
  have o4' := o4.1
  simp only [cgC, sxC] at o24' o4'
  simp [o24', o4']
  refine Tells.bind (same_Change hX (g := cg) (oa3.ext x4) (ob.ext x4) ⟨hcg.1, hcg.2⟩) ?_
  rintro _ g5 ⟨rfl, x5⟩
  have q5 := (q3.e x4).e x5
  have p5 := (p3.e x4).e x5
  have r5 := (r3.ext x4 (by simp) (by simp)).ext x5 (by simp) (by simp)
  have le5 : h0.next ≤ g5.next := by have := e3.next; have := x4.next; have := x5.next; omega
  have o45' := (o4.e x5).1
  simp only [cgC, sxC] at o45'
  have cb' : ClB (i + 1) (subX x e) := by
    unfold subX
    split
    · exact ⟨by have := cb.l0; simp; omega, by have := cb.l1; simp; omega, by have := cb.lg; simp; omega, cb.at_, cb.sb⟩
    · exact cb.up
  have hz' : c = 0 → (subX x e).here = false := fun q => by unfold subX; split <;> exact hz q
  have dx := o.x.set hx cb' hz'
  by_cases h0' : e = 0
  · subst h0'
    simp [t10, o45']
    have ob5 := (ob.ext x4).ext x5
    refine Tells.app1 r5.gp (by rfl) (by simp [AVal.known, ob5.known]) (show cgR.rep g5 (cgC cg vb) cg from ⟨vb, rfl, ob5, fun _ _ => trivial⟩) (by rfl) (by rfl) (by have := o.z.n; omega) (by decide) le5 fun v6 g6 gp6 x6 y6 z6 => ?_
    have mb : g5.isM b = true := p5.o.2.1
    have md : g5.isM d = true := q5.o.2.1
    have mf : g5.isM bf = true := r5.f.m
    have nm : ∀ y, y ∈ pv.blks → g5.isM y = false := fun y hy => (r5.gp.1.blk y hy).1
    have nS : ∀ y, g5.isM y = true → y ∉ pv.blks := fun y hy q => by rw [nm y q] at hy; cases hy
    have p6 := p5.grow x6 (nS b mb) (fun y hy => .inr (.inr hy)) z6 (fun y hy => (gp6.1.blk y hy).2)
    have q6 := q5.ext x6 (nS d md)
    have r6 : DR h0 g6 bf rawv raws v6 nv (pend ++ [cg]) now K := ⟨gp6, r5.sn.ext x6, r5.rw_.ext x6, r5.f.ext x6 (nS bf mf)⟩
    try simp
    refine hK _ g6 v6 nv ss' rs' _ (pend ++ [cg]) now K ⟨by simp [t2], by simp [t7], by simp [t8], by simp [t9], by simp, by simp [t11], by simp [t12], by simp [t13]⟩ (by simp) ⟨p6, q6, dx, r6, ⟨by have := o.z.n; simp; omega, fun y hy => ?_, o.z.s⟩, Nat.le_trans le5 x6.next, o.n1, o.n2, o.n3⟩ (by omega)
    rcases List.mem_append.1 hy with q | q
    · exact o.z.p y q
    · simp at q; subst q; exact hcg
  · simp [beq_eq_false_iff_ne.2 h0']
    exact hK _ g5 pv nv ss' rs' _ pend now K ⟨by simp [t2], by simp [t7], by simp [t8], by simp [t9], by simp [t10], by simp [t11], by simp [t12], by simp [t13]⟩ (by simp) ⟨p5, q5, dx, r5, ⟨by have := o.z.n; omega, o.z.p, o.z.s⟩, le5, o.n1, o.n2, o.n3⟩ (by omega)
end
end Go.Proofs.Ytbolfamaffbnnaa

/-! Law DeskTells: questions of Unsubscribe, Hear, Poll; what opens. -/
namespace Go.Proofs.Ytbolfamaffbnnaa
open Go.Ab

section
variable {X : XTab} {h0 g : Heap} {bf b d : Nat} {br : Int} {rawv : AVal} {raws : List Prd} {pv nv : AVal} {i K : Nat} {ss : List Seat} {rs : List Rc} {xs : List Cl} {pend : List Cg} {now : List Sx}
  {t : T} {c : Nat} {KK : Nat → Kn (Ex × T)} {Q : Ex × T → Heap → Prop}

/-- Hear, Poll. -/
theorem op_17 (hX : OnlyKnown X) (o : DI h0 g bf b d br rawv raws pv nv i K ss rs xs pend now) (tf : TF t rawv pv nv bf b d i c) (hc : c < 7) (hi : i < 60) (hk : K < 2 ^ 50) {bb : Bool} (t175 : t 175 = .bool bb)
    {K0 : Nat} (hk0 : K ≤ K0 + 90) (hK : After h0 bf b d br rawv raws i c K0 KK Q) : Tells (fun m => J_precentorlaw22_DeskTells_17 Try.prog (acallX Try.prog X m) m (KK m) t g) Q := by
  obtain ⟨t2, t7, t8, t9, t10, t11, t12, t13⟩ := tf
  obtain ⟨x, hx⟩ : ∃ x, xs[c]? = some x := ⟨_, List.getElem?_eq_getElem (by rw [o.p.l2]; exact hc)⟩
  have cb := o.x.s c x hx
  have hz : c = 0 → x.here = false := fun q => by subst q; exact o.x.z x hx
  have hlog : x.log.length < 2 ^ 30 := by have := cb.lg; omega
  cases bb with
  | true =>
    simp [J_precentorlaw22_DeskTells_17, t175, t7]
    refine Tells.bind (Next hX 5 ⟨by decide, by decide⟩ o.r.f (by omega)) ?_
    rintro _ g1 ⟨u, rfl, u0, u1, _, x1, f1⟩
    have u1 := u1 (by decide)
    have o1 := o.feed x1 f1
    have w1 : IntKind.i64.wrap (1 + u) = 1 + u := wrap_id (by omega) (by omega)
    simp [w1, t7, t12]
    refine Tells.bind (Next hX 3 ⟨by decide, by decide⟩ f1 (by omega)) ?_
    rintro _ g2 ⟨ep, rfl, _, _, _, x2, f2⟩
    have o2 := o1.feed x2 f2
    try simp [t7]
    refine Tells.bind (AttrsH hX f2 (by omega)) ?_
    rintro av g3 ⟨ats, ga, la, _, _, x3, f3⟩
    have o3 := o2.feed x3 f3
    simp [bldR, fillR, splice, ga.1.known, ga.1.cells]
    refine Tells.newSt (ds := snC ⟨1 + u, i, ep, ats⟩ av) (by rfl) (by rfl) (by rfl) (by simp [snC, ga.1.one]) fun g4 be oe x4 l4 => ?_
    have o4 := o3.e x4
    have oa4 := ga.1.ext x4
    have oe4' := oe.1
    simp only [snC] at oe4'
    simp [oe4', t8, t13]
    refine Tells.cbE (p_Hear hX o4.p hx hz o4.le hlog (sn := ⟨1 + u, i, ep, ats⟩) oa4 (by simp; omega)) ?_
    rintro _ g5 ⟨rfl, ⟨ss', p5⟩, ⟨S, e5, hS⟩, e5'⟩
    obtain ⟨q5, r5, le5⟩ := o4.prog e5 hS
    have oe5 := oe.ext e5 (fun q => by
      rcases hS _ q with z | z
      · have := o3.p.o.lt; omega
      · rw [oe.2.1] at z; exact absurd z.1 (by simp))
    have oe5' := oe5.1
    simp only [snC] at oe5'
    simp [oe5', t9, t13]
    refine Tells.cbE (d_Hear hX q5 hx hz hlog (sn := ⟨1 + u, i, ep, ats⟩) (oa4.ext e5)) ?_
    rintro _ g6 ⟨rfl, ⟨rs', q6⟩, e6⟩
    have u4 := Try.underlying4
    have dpv : ∀ y, y ∈ pv.blks → y ∉ [d] := fun y hy q => by
      simp at q; subst q
      have := (r5.gp.1.blk _ hy).1
      rw [q5.o.2.1] at this; cases this
    have p6 := p5.ext e6 (by simpa using o.n1) (fun y hy => .inl (by simp at hy; subst hy; exact q5.o.2.1))
    have r6 := r5.ext e6 (by simpa using o.n3) dpv
    have cb' : ClB (i + 1) (hearX x ⟨1 + u, i, ep, ats⟩) := by
      unfold hearX
      split
      · refine ⟨cb.l0, by have := cb.l1; simp; omega, by have := cb.lg; simp; omega, fun y hy => ?_, cb.sb⟩
        rcases List.mem_append.1 hy with q | q
        · exact cb.at_ y q
        · simp at q; subst q; simp; omega
      · exact cb.up
    have hz' : c = 0 → (hearX x ⟨1 + u, i, ep, ats⟩).here = false := fun q => by unfold hearX; split <;> exact hz q
    simp [u4]
    exact hK _ g6 pv nv ss' rs' _ pend now _ ⟨by simp [t2], by simp [t7], by simp [t8], by simp [t9], by simp [t10], by simp [t11], by simp [t12], by simp [t13]⟩ (by simp) ⟨p6, q6, o.x.set hx cb' hz', r6, ⟨by have := o.z.n; omega, o.z.p, o.z.s⟩, Nat.le_trans le5 e6.next, o.n1, o.n2, o.n3⟩ (by omega)
  | false =>
    simp [J_precentorlaw22_DeskTells_17, t175, t8, t13]
    refine Tells.bind (p_Poll hX o.p hx hz hlog cb.at_) ?_
    rintro _ g1 ⟨⟨va, rfl, oa⟩, ⟨ss', p1⟩, e1⟩
    obtain ⟨q1, r1, le1⟩ := o.prog e1 (fun y hy => .inl (by simpa using hy))
    have lat : (pollS x).ats.length ≤ 100 := by
      unfold pollS
      split
      · cases hy : x.log[x.read]? with
        | none => simp [sn0]
        | some y => simp; exact cb.at_ y (List.mem_of_getElem? hy)
      · simp [sn0]
    have cb' : ClB (i + 1) (pollX x) := by
      unfold pollX
      split
      · exact ⟨cb.l0, by have := cb.l1; simp; omega, by have := cb.lg; simp; omega, cb.at_, cb.sb⟩
      · exact cb.up
    have hz' : c = 0 → (pollX x).here = false := fun q => by unfold pollX; split <;> exact hz q
    generalize hE : pollE x = e at *
    generalize hS : pollS x = sn at *
    simp [extR]
    refine Tells.newSt (ds := snC sn va) (by rfl) (by rfl) (by rfl) (by simp [snC, oa.one]) fun g2 ba o2 x2 l2 => ?_
    have q2 := q1.e x2
    simp [t9, t13]
    refine Tells.bind (d_Poll hX q2 hx hz hlog) ?_
    rw [hE, hS]
    rintro _ g3 ⟨⟨vb, rfl, ob⟩, ⟨rs', q3⟩, e3⟩
    have hd1 := o.q.o.lt
    have n1 := e1.next
    have n2 := x2.next
    have p2 := p1.e x2
    have p3 := p2.ext e3 (by simpa using o.n1) (fun y hy => .inl (by simp at hy; subst hy; exact q2.o.2.1))
    have r2 := r1.ext x2 (by simp) (by simp)
    have dpv : ∀ y, y ∈ pv.blks → y ∉ [d] := fun y hy q => by
      simp at q; subst q
      have := (r2.gp.1.blk _ hy).1
      rw [q2.o.2.1] at this; cases this
    have r3 := r2.ext e3 (by simpa using o.n3) dpv
    have o23 := o2.ext e3 (by simp; omega)
    have oa3 := (oa.ext x2).ext e3
    simp [extR]
    refine Tells.newSt (ds := snC sn vb) (by rfl) (by rfl) (by rfl) (by simp [snC, ob.one]) fun g4 bb o4 x4 l4 => ?_
    have o24' := (o23.e x4).1
    have o4' := o4.1
    simp only [snC] at o24' o4'
    simp [o24', o4']
    refine Tells.bind (same_Seen hX (s := sn) (oa3.ext x4) (ob.ext x4) (by omega)) ?_
    rintro _ g5 ⟨rfl, x5⟩
    have q5 := (q3.e x4).e x5
    have p5 := (p3.e x4).e x5
    have r5 := (r3.ext x4 (by simp) (by simp)).ext x5 (by simp) (by simp)
    have le5 : h0.next ≤ g5.next := by have := e3.next; have := x4.next; have := x5.next; omega
    try simp
    exact hK _ g5 pv nv ss' rs' _ pend now K ⟨by simp [t2], by simp [t7], by simp [t8], by simp [t9], by simp [t10], by simp [t11], by simp [t12], by simp [t13]⟩ (by simp) ⟨p5, q5, o.x.set hx cb' hz', r5, ⟨by have := o.z.n; omega, o.z.p, o.z.s⟩, le5, o.n1, o.n2, o.n3⟩ (by omega)
end
end Go.Proofs.Ytbolfamaffbnnaa

/-! What Apply leaves (printed by mk22.py). -/
namespace Go.Proofs.Ytbolfamaffbnnaa
open Go.Ab

section
variable {X : XTab}

theorem mem_gone {l : List Sx} {c n : Int} {y : Sx} : y ∈ goneL l c n ↔ y ∈ l ∧ sameK c n y = false := by simp [goneL]

theorem mem_ins {s y : Sx} : ∀ {l : List Sx}, y ∈ insB s l ↔ y = s ∨ y ∈ l
  | [] => by simp [insB]
  | x :: r => by
    unfold insB
    split
    · rw [List.mem_cons, mem_ins, List.mem_cons]
      constructor
      · rintro (h | h | h)
        · exact .inr (.inl h)
        · exact .inl h
        · exact .inr (.inr h)
      · rintro (h | h | h)
        · exact .inr (.inl h)
        · exact .inl h
        · exact .inr (.inr h)
    · simp

theorem in_setF {s y : Sx} : ∀ {l : List Sx}, y ∈ setF s l → y = s ∨ y ∈ l
  | [], h => by simp [setF] at h
  | x :: l, h => by
    unfold setF at h
    split at h
    · rcases List.mem_cons.1 h with q | q
      · exact .inl q
      · exact .inr (by simp [q])
    · rcases List.mem_cons.1 h with q | q
      · exact .inr (by simp [q])
      · rcases in_setF q with z | z
        · exact .inl z
        · exact .inr (by simp [z])

theorem in_app {l : List Sx} {g : Cg} {y : Sx} (h : y ∈ appL l g) : y ∈ l ∨ y = g.s := by
  unfold appL at h
  split at h
  · exact .inl (mem_gone.1 h).1
  · unfold comeL at h
    split at h
    · rcases in_setF h with q | q
      · exact .inr q
      · exact .inl q
    · rcases mem_ins.1 h with q | q
      · exact .inr q
      · exact .inl q

theorem in_fold {P : Sx → Prop} : ∀ (ch : List Cg) {l : List Sx}, (∀ y, y ∈ l → P y) → (∀ g, g ∈ ch → P g.s) → ∀ y, y ∈ ch.foldl appL l → P y
  | [], l, hl, _, y, hy => hl y hy
  | g :: ch, l, hl, hc, y, hy => by
    refine in_fold ch (l := appL l g) (fun z hz => ?_) (fun k hk => hc k (by simp [hk])) y hy
    rcases in_app hz with q | q
    · exact hl z q
    · subst q; exact hc g (by simp)

end
end Go.Proofs.Ytbolfamaffbnnaa

/-! Law DeskTells: Unsubscribe asked; what opens. -/
namespace Go.Proofs.Ytbolfamaffbnnaa
open Go.Ab

section
variable {X : XTab} {h0 g : Heap} {bf b d : Nat} {br : Int} {rawv : AVal} {raws : List Prd} {pv nv : AVal} {i K : Nat} {ss : List Seat} {rs : List Rc} {xs : List Cl} {pend : List Cg} {now : List Sx}
  {t : T} {c : Nat} {KK : Nat → Kn (Ex × T)} {Q : Ex × T → Heap → Prop}

theorem op_16 (hX : OnlyKnown X) (o : DI h0 g bf b d br rawv raws pv nv i K ss rs xs pend now) (tf : TF t rawv pv nv bf b d i c) (hi : i < 60) (t14 : t 14 = .bool true) {K0 : Nat} (hk0 : K ≤ K0 + 100)
    (hK : After h0 bf b d br rawv raws i c K0 KK Q) : Tells (fun m => J_precentorlaw22_DeskTells_16 Try.prog (acallX Try.prog X m) m (KK m) t g) Q := by
  obtain ⟨t2, t7, t8, t9, t10, t11, t12, t13⟩ := tf
  have sz : SzS now := ⟨by have := o.z.n; omega, o.z.s⟩
  simp [J_precentorlaw22_DeskTells_16, t8, t11]
  refine Tells.bind (p_Open hX o.p o.x.z o.r.sn sz) ?_
  rintro _ g1 ⟨⟨ss', p1⟩, e1⟩
  obtain ⟨q1, r1, le1⟩ := o.prog e1 (fun y hy => .inl (by simpa using hy))
  simp [t9, t11]
  refine Tells.bind (d_Open hX q1 o.x.z r1.sn sz) ?_
  rintro _ g2 ⟨⟨rs', q2⟩, e2⟩
  have dpv : ∀ y, y ∈ pv.blks → y ∉ [d] := fun y hy q => by
    simp at q; subst q
    have := (r1.gp.1.blk _ hy).1
    rw [q1.o.2.1] at this; cases this
  have p2 := p1.ext e2 (by simpa using o.n1) (fun y hy => .inl (by simp at hy; subst hy; exact q1.o.2.1))
  have r2 := r1.ext e2 (by simpa using o.n3) dpv
  have dx : DX (i + 1) (openL now 7 xs) := by
    refine ⟨fun y hy => ?_, fun c1 x1 h1 => ?_⟩
    · rw [openL_at] at hy
      cases e : xs[0]? with
      | none => rw [e] at hy; cases hy
      | some x =>
        rw [e] at hy
        have hx := o.x.z x e
        simp [openX, hx] at hy
        subst hy
        exact hx
    · rw [openL_at] at h1
      cases e : xs[c1]? with
      | none => rw [e] at h1; cases h1
      | some x =>
        rw [e] at h1
        have cb := (o.x.s c1 x e).up
        simp only [Option.map_some, Option.some.injEq] at h1
        subst h1
        split
        · unfold openX
          split
          · exact ⟨cb.l0, cb.l1, cb.lg, cb.at_, Nat.le_trans (List.length_filter_le _ _) sz.1⟩
          · exact cb
        · exact cb
  try simp
  exact hK _ g2 pv nv ss' rs' _ pend now K ⟨by simp [t2], by simp [t7], by simp [t8], by simp [t9], by simp [t10], by simp [t11], by simp [t12], by simp [t13]⟩ (by simp [t14]) ⟨p2, q2, dx, r2, ⟨by have := o.z.n; omega, o.z.p, o.z.s⟩, Nat.le_trans le1 e2.next, o.n1, o.n2, o.n3⟩ (by omega)

theorem op_15 (hX : OnlyKnown X) (o : DI h0 g bf b d br rawv raws pv nv i K ss rs xs pend now) (tf : TF t rawv pv nv bf b d i c) (hc : c < 7) (hi : i < 60) (hk : K < 2 ^ 50) (t14 : t 14 = .bool true) {op : Int} (t57 : t 57 = I op) {bb : Bool} (t128 : t 128 = .bool bb)
    {K0 : Nat} (hk0 : K ≤ K0 + 90) (hK : After h0 bf b d br rawv raws i c K0 KK Q) : Tells (fun m => J_precentorlaw22_DeskTells_15 Try.prog (acallX Try.prog X m) m (KK m) t g) Q := by
  have tf0 := tf
  obtain ⟨t2, t7, t8, t9, t10, t11, t12, t13⟩ := tf
  obtain ⟨x, hx⟩ : ∃ x, xs[c]? = some x := ⟨_, List.getElem?_eq_getElem (by rw [o.p.l2]; exact hc)⟩
  have cb := o.x.s c x hx
  have hz : c = 0 → x.here = false := fun q => by subst q; exact o.x.z x hx
  cases bb with
  | true =>
    simp [J_precentorlaw22_DeskTells_15, t128, t7]
    refine Tells.bind (Next hX 5 ⟨by decide, by decide⟩ o.r.f (by omega)) ?_
    rintro _ g0 ⟨n, rfl, _, _, _, x0, f0⟩
    have o0 := o.feed x0 f0
    simp [t8, t13]
    refine Tells.bind (p_Uns hX o0.p hx hz cb.sb n) ?_
    rintro _ g1 ⟨rfl, ⟨ss', p1⟩, e1⟩
    obtain ⟨q1, r1, le1⟩ := o0.prog e1 (fun y hy => .inl (by simpa using hy))
    generalize hE : unsE c x n = e at *
    have hcg : (unsG br c n e).s.fl = [] := by
      unfold unsG
      split <;> rfl
    generalize hG : unsG br c n e = cg at *
    have szc : SzF cg.s.fl := by rw [hcg]; exact ⟨by simp, by simp⟩
    have sn0 : ∀ h : Heap, SlN prR h .nils cg.s.fl := fun h => by rw [hcg]; exact SlN.nil
    simp [extR]
    refine Tells.newSt (ds := cgC cg .nils) (by rfl) (by rfl) (by rfl) (by rfl) fun g2 ba o2 x2 l2 => ?_
    have q2 := q1.e x2
    simp [t9, t13]
    refine Tells.bind (d_Uns hX q2 hx hz cb.sb n) ?_
    rw [hE, hG]
    rintro _ g3 ⟨rfl, ⟨rs', q3⟩, e3⟩
    have hd1 := o0.q.o.lt
    have n1 := e1.next
    have n2 := x2.next
    have p2 := p1.e x2
    have p3 := p2.ext e3 (by simpa using o.n1) (fun y hy => .inl (by simp at hy; subst hy; exact q2.o.2.1))
    have r2 := r1.ext x2 (by simp) (by simp)
    have dpv : ∀ y, y ∈ pv.blks → y ∉ [d] := fun y hy q => by
      simp at q; subst q
      have := (r2.gp.1.blk _ hy).1
      rw [q2.o.2.1] at this; cases this
    have r3 := r2.ext e3 (by simpa using o.n3) dpv
    have o23 := o2.ext e3 (by simp; omega)
    simp [extR]
    refine Tells.newSt (ds := cgC cg .nils) (by rfl) (by rfl) (by rfl) (by rfl) fun g4 bb o4 x4 l4 => ?_
    have o24' := (o23.e x4).1
    have o4' := o4.1
    simp only [cgC, sxC] at o24' o4'
    simp [o24', o4']
    refine Tells.bind (same_Change hX (g := cg) (sn0 g4) (sn0 g4) ⟨szc.1, szc.2⟩) ?_
    rintro _ g5 ⟨rfl, x5⟩
    have q5 := (q3.e x4).e x5
    have p5 := (p3.e x4).e x5
    have r5 := (r3.ext x4 (by simp) (by simp)).ext x5 (by simp) (by simp)
    have le5 : h0.next ≤ g5.next := by have := e3.next; have := x4.next; have := x5.next; omega
    have o45' := (o4.e x5).1
    simp only [cgC, sxC] at o45'
    have cb' : ClB (i + 1) (unsX x n e) := by
      unfold unsX
      split
      · exact ⟨cb.l0, by have := cb.l1; simp; omega, by have := cb.lg; simp; omega, cb.at_, cb.sb⟩
      · exact cb.up
    have hz' : c = 0 → (unsX x n e).here = false := fun q => by unfold unsX; split <;> exact hz q
    have dx := o.x.set hx cb' hz'
    by_cases h0' : e = 0
    · subst h0'
      simp [t10, o45']
      refine Tells.app1 r5.gp (by rfl) (by rfl) (show cgR.rep g5 (cgC cg .nils) cg from ⟨.nils, rfl, sn0 g5, fun _ _ => trivial⟩) (by rfl) (by rfl) (by have := o.z.n; omega) (by decide) le5 fun v6 g6 gp6 x6 y6 z6 => ?_
      have mb : g5.isM b = true := p5.o.2.1
      have md : g5.isM d = true := q5.o.2.1
      have mf : g5.isM bf = true := r5.f.m
      have nm : ∀ y, y ∈ pv.blks → g5.isM y = false := fun y hy => (r5.gp.1.blk y hy).1
      have nS : ∀ y, g5.isM y = true → y ∉ pv.blks := fun y hy q => by rw [nm y q] at hy; cases hy
      have p6 := p5.grow x6 (nS b mb) (fun y hy => .inr (.inr hy)) z6 (fun y hy => (gp6.1.blk y hy).2)
      have q6 := q5.ext x6 (nS d md)
      have r6 : DR h0 g6 bf rawv raws v6 nv (pend ++ [cg]) now (K + 1) := ⟨gp6, r5.sn.ext x6, r5.rw_.ext x6, r5.f.ext x6 (nS bf mf)⟩
      try simp
      refine hK _ g6 v6 nv ss' rs' _ (pend ++ [cg]) now (K + 1) ⟨by simp [t2], by simp [t7], by simp [t8], by simp [t9], by simp, by simp [t11], by simp [t12], by simp [t13]⟩ (by simp) ⟨p6, q6, dx, r6, ⟨by have := o.z.n; simp; omega, fun y hy => ?_, o.z.s⟩, Nat.le_trans le5 x6.next, o.n1, o.n2, o.n3⟩ (by omega)
      rcases List.mem_append.1 hy with q | q
      · exact o.z.p y q
      · simp at q; subst q; exact szc
    · simp [beq_eq_false_iff_ne.2 h0']
      exact hK _ g5 pv nv ss' rs' _ pend now (K + 1) ⟨by simp [t2], by simp [t7], by simp [t8], by simp [t9], by simp [t10], by simp [t11], by simp [t12], by simp [t13]⟩ (by simp) ⟨p5, q5, dx, r5, ⟨by have := o.z.n; omega, o.z.p, o.z.s⟩, le5, o.n1, o.n2, o.n3⟩ (by omega)
  | false =>
    by_cases h5 : op = 5
    · subst h5
      simp [J_precentorlaw22_DeskTells_15, t128, t57, t7]
      refine Tells.bind (Next hX 4 ⟨by decide, by decide⟩ o.r.f (by omega)) ?_
      rintro _ g0 ⟨n, rfl, n0, _, _, x0, f0⟩
      have o0 := o.feed x0 f0
      by_cases hn : 0 < n
      · simp [hn, t10, t11]
        have lz := o.z.n
        refine Tells.bind (ref_Apply hX o0.r.sn (by omega) o0.r.gp.1 (by omega)) ?_
        rintro nv2 g1 ⟨sn1, x1⟩
        have o1 := o0.e x1
        have fl := foldl_len pend now
        have p1 := o1.p.grow (gv' := .nils) (S := []) .refl (by simp) (by simp) (fun y hy => by simp [AVal.blks] at hy) (fun y hy => by simp [AVal.blks] at hy)
        have oN : DI h0 g1 bf b d br rawv raws .nils nv2 i (K + 1) ss rs xs [] (pend.foldl appL now) := ⟨p1, o1.q, o1.x, ⟨Gl.nil, sn1, o1.r.rw_, o1.r.f⟩, ⟨by simp; omega, by simp, in_fold (P := fun s => SzF s.fl) pend o.z.s o.z.p⟩, o1.le, o.n1, o.n2, o.n3⟩
        exact op_16 hX oN ⟨by simp [t2], by simp [t7], by simp [t8], by simp [t9], by simp, by simp, by simp [t12], by simp [t13]⟩ hi (by simp [t14]) (K0 := K0) (by omega) hK
      · simp [hn]
        exact op_16 hX o0 ⟨by simp [t2], by simp [t7], by simp [t8], by simp [t9], by simp [t10], by simp [t11], by simp [t12], by simp [t13]⟩ hi (by simp [t14]) (K0 := K0) (by omega) hK
    · have e5 : (op == 5) = false := beq_eq_false_iff_ne.2 h5
      by_cases h6 : op = 6
      · subst h6
        simp [J_precentorlaw22_DeskTells_15, t128, t57]
        exact op_17 hX o ⟨by simp [t2], by simp [t7], by simp [t8], by simp [t9], by simp [t10], by simp [t11], by simp [t12], by simp [t13]⟩ hc hi hk (bb := true) (by simp) hk0 hK
      · simp [J_precentorlaw22_DeskTells_15, t128, t57, e5, beq_eq_false_iff_ne.2 h6]
        exact op_17 hX o ⟨by simp [t2], by simp [t7], by simp [t8], by simp [t9], by simp [t10], by simp [t11], by simp [t12], by simp [t13]⟩ hc hi hk (bb := op == 7) (by simp) hk0 hK
end
end Go.Proofs.Ytbolfamaffbnnaa

/-! Law DeskTells: which question; what is compared behind each. -/
namespace Go.Proofs.Ytbolfamaffbnnaa
open Go.Ab

section
variable {X : XTab} {h0 g : Heap} {bf b d : Nat} {br : Int} {rawv : AVal} {raws : List Prd} {pv nv : AVal} {i K : Nat} {ss : List Seat} {rs : List Rc} {xs : List Cl} {pend : List Cg} {now : List Sx}
  {t : T} {c : Nat} {KK : Nat → Kn (Ex × T)} {Q : Ex × T → Heap → Prop}

theorem FedF.szn6 {l : List Prd} (h : FedF l) : l.length ≤ 1000 ∧ ∀ p, p ∈ l → SzN p := ⟨by have := h.1; omega, fun p hp => ⟨by have := (h.2.1 p hp).set_le; omega, by
  have : ∀ n, n ∈ names4 → n.size < 2 ^ 63 := by decide +kernel
  exact this _ (h.2.1 p hp).1⟩⟩

theorem op_13 (hX : OnlyKnown X) (o : DI h0 g bf b d br rawv raws pv nv i K ss rs xs pend now) (tf : TF t rawv pv nv bf b d i c) (hc : c < 7) (hi : i < 60) (hk : K < 2 ^ 50) (t14 : t 14 = .bool true) {op : Int} (t57 : t 57 = I op) {bb : Bool} (t87 : t 87 = .bool bb)
    {K0 : Nat} (hk0 : K ≤ K0 + 20) (hK : After h0 bf b d br rawv raws i c K0 KK Q) : Tells (fun m => J_precentorlaw22_DeskTells_13 Try.prog (acallX Try.prog X m) m (KK m) t g) Q := by
  obtain ⟨t2, t7, t8, t9, t10, t11, t12, t13⟩ := tf
  cases bb with
  | true =>
    simp [J_precentorlaw22_DeskTells_13, t87, t7]
    refine Tells.bind (FilterH hX o.r.f (by omega)) ?_
    rintro fv g1 ⟨fl, rz, fed, x1, f1⟩
    have o1 := o.feed x1 f1
    have sf : Sl prR g1 fv fl := rz.sl
    try simp [t7]
    refine Tells.bind (Next hX 9 ⟨by decide, by decide⟩ f1 (by omega)) ?_
    rintro _ g2 ⟨n, rfl, _, _, _, x2, f2⟩
    have o2 := o1.feed x2 f2
    by_cases hn : n = 0
    · subst hn
      obtain ⟨v', q1, q2, q3⟩ := o2.r.rw_.sl.takeR (n := 13) rfl (hi := min raws.length 4) (by omega)
      have em : (if (4 : Int) < raws.length then 4 else (raws.length : Int)) = ((min raws.length 4 : Nat) : Int) := by
        split <;> omega
      have q1' : slcR 13 rawv none (some (.int .i64 (if (4 : Int) < raws.length then 4 else (raws.length : Int)))) none = some v' := by rw [em]; exact q1
      simp [t2, o2.r.rw_.sl.len, q1']
      exact op_sub hX o2 ⟨by simp [t2], by simp [t7], by simp [t8], by simp [t9], by simp [t10], by simp [t11], by simp [t12], by simp [t13]⟩ hc hi (fv := v') (fl := raws.take (min raws.length 4)) (by simp) (.inl q2) (by simp; omega) (fun p hp => o2.r.rw_.sz p (List.mem_of_mem_take hp)) (K0 := K0) (by omega) hK
    · simp [beq_eq_false_iff_ne.2 hn]
      exact op_sub hX o2 ⟨by simp [t2], by simp [t7], by simp [t8], by simp [t9], by simp [t10], by simp [t11], by simp [t12], by simp [t13]⟩ hc hi (fv := fv) (fl := fl) (by simp) (.inl (sf.ext x2)) fed.szn6.1 fed.szn6.2 (K0 := K0) (by omega) hK
  | false =>
    by_cases h3 : op = 3
    · subst h3
      simp [J_precentorlaw22_DeskTells_13, t87, t57]
      exact op_15 hX o ⟨by simp [t2], by simp [t7], by simp [t8], by simp [t9], by simp [t10], by simp [t11], by simp [t12], by simp [t13]⟩ hc hi hk (by simp [t14]) (op := 3) (by simp [t57]) (bb := true) (by simp) (K0 := K0) (by omega) hK
    · simp [J_precentorlaw22_DeskTells_13, t87, t57, beq_eq_false_iff_ne.2 h3]
      exact op_15 hX o ⟨by simp [t2], by simp [t7], by simp [t8], by simp [t9], by simp [t10], by simp [t11], by simp [t12], by simp [t13]⟩ hc hi hk (by simp [t14]) (op := op) (by simp [t57]) (bb := op == 4) (by simp) (K0 := K0) (by omega) hK

/-- What is compared behind each question. -/
theorem op_tail (hX : OnlyKnown X) (o : DI h0 g bf b d br rawv raws pv nv i K ss rs xs pend now) {j : Nat} (tf : TF t rawv pv nv bf b d j c) (hc : c < 7) (hi : i < 60) (t14 : t 14 = .bool true)
    (hK : ∀ (t' : T) (g' : Heap), TF t' rawv pv nv bf b d j c → DI h0 g' bf b d br rawv raws pv nv i K ss rs xs pend now → Tells (fun m => KK m .normal t' g') Q) :
    Tells (fun m => J_precentorlaw22_DeskTells_11 Try.prog (acallX Try.prog X m) m (KK m) t g) Q := by
  obtain ⟨t2, t7, t8, t9, t10, t11, t12, t13⟩ := tf
  obtain ⟨x, hx⟩ : ∃ x, xs[c]? = some x := ⟨_, List.getElem?_eq_getElem (by rw [o.p.l2]; exact hc)⟩
  obtain ⟨s, hs⟩ : ∃ s, rs[c]? = some s := ⟨_, List.getElem?_eq_getElem (by rw [o.q.l1]; exact hc)⟩
  have cb := o.x.s c x hx
  have hz : c = 0 → x.here = false := fun q => by subst q; exact o.x.z x hx
  have at9 := rdC_at (br := br) hs (k := 9) (by decide)
  have hp := ixp_at (len := 7) (z := 11) (b := d) (o := 1) hc
  simp [J_precentorlaw22_DeskTells_11, t14, t8]
  refine Tells.bind (p_Busy hX o.p o.x.z) ?_
  rintro _ g ⟨rfl, rfl⟩
  try simp [t9]
  refine Tells.bind (d_Busy hX o.q o.x.z) ?_
  rintro _ g ⟨rfl, rfl⟩
  simp [J_precentorlaw22_DeskTells_12, t8, t13]
  refine Tells.bind (p_Log hX o.p hx hz (by have := cb.lg; omega) cb.at_) ?_
  rintro lv g1 ⟨⟨l, sl, ll⟩, x1⟩
  have o1 := o.e x1
  have r := o1.q.r c s x hs hx
  simp [sl.len, ll, t9, t13]
  refine Tells.bind (d_Here hX o1.q hx hz) ?_
  rintro _ g1 ⟨rfl, rfl⟩
  cases hh : x.here with
  | true =>
    simp [t9, t13, hp, o1.q.o.1, at9, rcC, r.vl.len, ll, hh]
    refine Tells.bind (d_Here hX o1.q hx hz) ?_
    rintro _ g1 ⟨rfl, rfl⟩
    simp [hh]
    exact hK _ g1 ⟨by simp [t2], by simp [t7], by simp [t8], by simp [t9], by simp [t10], by simp [t11], by simp [t12], by simp [t13]⟩ o1
  | false =>
    simp [t9, t13, ll, hh]
    refine Tells.bind (d_Here hX o1.q hx hz) ?_
    rintro _ g1 ⟨rfl, rfl⟩
    simp [hh, ll]
    exact hK _ g1 ⟨by simp [t2], by simp [t7], by simp [t8], by simp [t9], by simp [t10], by simp [t11], by simp [t12], by simp [t13]⟩ o1
end
end Go.Proofs.Ytbolfamaffbnnaa

/-! Law DeskTells: the walk. -/
namespace Go.Proofs.Ytbolfamaffbnnaa
open Go.Ab

theorem hereN_split : ∀ {l r : List Cl} {i : Nat}, hereN i (l ++ r) = hereN i l ++ hereN (i + l.length) r
  | [], r, i => by simp [hereN]
  | y :: l, r, i => by
    have ih := hereN_split (l := l) (r := r) (i := i + 1)
    rw [List.cons_append]
    have e : i + 1 + l.length = i + (y :: l).length := by simp; omega
    rw [e] at ih
    conv => lhs; unfold hereN
    conv => rhs; arg 1; unfold hereN
    rw [ih]
    split <;> simp
def rc0 : Rc := ⟨false, 0, false, 0, 0, 0, .nils, false, .nils, .nils, 0⟩

section
variable {X : XTab}

/-- Who is here, in the end. -/
theorem desk_end (hX : OnlyKnown X) {h0 g : Heap} {bf b d : Nat} {br : Int} {rawv : AVal} {raws : List Prd} {pv nv : AVal} {i K : Nat} {ss : List Seat} {rs : List Rc} {xs : List Cl} {pend : List Cg} {now : List Sx} {t : T}
    (o : DI h0 g bf b d br rawv raws pv nv i K ss rs xs pend now) (t8 : t 8 = .ptr b 0) (t9 : t 9 = .ptr d 0) :
    Tells (fun m => J_precentorlaw22_DeskTells_1 Try.prog (acallX Try.prog X m) m (retK Try.prog [.tmp 6]) t g) fun r _ => r = .bool true := by
  refine Tells.prot fun Q' hQ => ?_
  have l2 := o.p.l2
  obtain ⟨y0, hy0⟩ : ∃ y, xs[0]? = some y := ⟨_, List.getElem?_eq_getElem (by omega)⟩
  have z0 := o.x.z y0 hy0
  have one : hereN 0 (xs.take 1) = [] := by
    rw [show (1 : Nat) = 0 + 1 from rfl, List.take_add_one, hy0]
    simp [hereN, z0]
  simp [J_precentorlaw22_DeskTells_1, t8]
  refine Tells.bind (p_Clients hX o.p o.x.z) ?_
  rintro cv g1 ⟨sc, x1⟩
  have q1 := o.q.e x1
  try simp
  refine Tells.bind (Tells.loop (fun n t g => g = g1 ∧ ∃ c : Nat, t 9 = .ptr d 0 ∧ t 31 = cv ∧ t 32 = I (hereN 0 (xs.take c)).length ∧ t 33 = I c ∧ c + n = 7 ∧ 1 ≤ c)
    (Q := fun p g => g = g1 ∧ p.1 = .exit 3 ∧ p.2 31 = cv ∧ p.2 32 = I (hereN 0 xs).length) ?_ 6 _ _ ⟨rfl, 1, by simp [t9], by simp, by simp [one], by simp, by omega, by omega⟩) ?_
  · rintro n t g ⟨rfl, c, t9, t31, t32, t33, hn, c1⟩
    refine Tells.prot fun Q2 hQ2 => ?_
    unfold L_precentorlaw22_DeskTells_3
    by_cases hc : c ≤ 6
    · have hc' : (c : Int) ≤ 6 := by omega
      have w : IntKind.i64.wrap ((c : Int) + 1) = c + 1 := wrap_id (by omega) (by omega)
      obtain ⟨x, hx⟩ : ∃ x, xs[c]? = some x := ⟨_, List.getElem?_eq_getElem (by omega)⟩
      have tk : xs.take (c + 1) = xs.take c ++ [x] := by rw [List.take_add_one, hx]; rfl
      have lt : (xs.take c).length = c := by simp; omega
      have hap : hereN 0 (xs.take (c + 1)) = hereN 0 (xs.take c) ++ if x.here = true then [(c : Int)] else [] := by rw [tk, hereN_app, lt]; simp
      have hle : (hereN 0 (xs.take c)).length ≤ 7 := Nat.le_trans hereN_len (by omega)
      simp [t33, hc, hc', J_precentorlaw22_DeskTells_4, t9]
      refine Tells.bind (d_Here hX q1 hx fun q => by omega) ?_
      rintro _ g ⟨rfl, rfl⟩
      cases hh : x.here with
      | false =>
        rw [hh, if_neg (by simp), List.append_nil] at hap
        simp [J_precentorlaw22_DeskTells_5, t33, w]
        exact Tells.ok (hQ2 _ _ (.inl ⟨rfl, n - 1, by omega, rfl, c + 1, by simp [t9], by simp [t31], by simp [t32, hap], by simp, by omega, by omega⟩))
      | true =>
        rw [hh, if_pos rfl] at hap
        have hsp : hereN 0 xs = hereN 0 (xs.take (c + 1)) ++ hereN (0 + (xs.take (c + 1)).length) (xs.drop (c + 1)) := by
          conv => lhs; rw [← List.take_append_drop (c + 1) xs]
          exact hereN_split
        have hat : (hereN 0 xs)[(hereN 0 (xs.take c)).length]? = some (c : Int) := by
          rw [hsp, hap]
          simp
        have hll := (List.getElem?_eq_some_iff.1 hat).1
        obtain ⟨b1, p1, B1, j1, j2, j3⟩ := sc.atI hat
        have wl : IntKind.i64.wrap (((hereN 0 (xs.take c)).length : Int) + 1) = (hereN 0 (xs.take c)).length + 1 := wrap_id (by omega) (by omega)
        simp [J_precentorlaw22_DeskTells_6, t31, t32, t33, sc.len, show ¬ ((hereN 0 xs).length : Int) ≤ (hereN 0 (xs.take c)).length by omega, show ¬ (hereN 0 xs).length ≤ (hereN 0 (xs.take c)).length by omega, j1, j2, j3, J_precentorlaw22_DeskTells_7, wl, J_precentorlaw22_DeskTells_5, w]
        exact Tells.ok (hQ2 _ _ (.inl ⟨rfl, n - 1, by omega, rfl, c + 1, by simp [t9], by simp [t31], by simp [hap], by simp, by omega, by omega⟩))
    · have : c = 7 := by omega
      subst this
      simp [t33]
      exact Tells.ok (hQ2 _ _ (.inr ⟨by simp, rfl, rfl, by simp [t31], by simp [t32, List.take_of_length_le (show xs.length ≤ 7 by omega)]⟩))
  · rintro ⟨ex, t⟩ g ⟨rfl, rfl, t31, t32⟩
    simp only at t31 t32
    simp [J_precentorlaw22_DeskTells_2, t31, t32, sc.len]
    exact Tells.ok (hQ _ _ rfl)

theorem deskTells_ (hX : OnlyKnown X) (hk : X F_precentorlaw22_known [] = some (.bool true)) {h : Heap} {v1 : AVal} {xs1 : List Int} (r1 : RawInts h v1 xs1) (n : Int) (hn : In64 n) {v3 : AVal} {raws : List Prd} (r3 : RawP h v3 raws) :
    Tells (fun m => acallX Try.prog X m F_precentorlaw22_DeskTells [v1, I n, v3] h) fun r _ => r = .bool true := by
  refine R_precentorlaw22_DeskTells _ _ _ (hX _ _ rfl) ?_
  refine Tells.prot fun Q' hQ => ?_
  unfold S_precentorlaw22_DeskTells
  simp [bldR, fillR, splice, r1.sl.known, r1.sl.cells]
  refine Tells.box rfl rfl fun h1 bf f1 x1 l1 => ?_
  have rr := r1.ext x1
  have fd : Feed h1 bf 0 := ⟨v1, 0, xs1, f1, by omega, by omega, rr.sl, rr.small, rr.old⟩
  try simp
  refine Tells.bind (Pick hX n 8 ⟨by decide, by decide⟩ h1) ?_
  rintro _ h1 ⟨rfl, rfl⟩
  generalize pick n 8 = br
  try simp
  refine Tells.bind (desk_New hX br h1) ?_
  rintro _ h2 ⟨b, rfl, ob, x2, lb⟩
  try simp
  refine Tells.box (cs := rdC br (List.replicate 7 rc0)) (by rfl) (by rfl) fun h3 d od x3 ld => ?_
  try simp
  refine Tells.bind (known_X hk h3) ?_
  rintro _ h3 ⟨rfl, rfl⟩
  have n1 := x1.next
  have n2 := x2.next
  have n3 := x3.next
  have hb := ob.lt
  have hf := fd.lt
  have p3 : DeskP .nils h3 h3 b br (List.replicate 7 seat0) (List.replicate 7 cl0) := by
    refine ⟨ob.e x3, by simp, by simp, fun c s x hs hx => ?_, fun c c' s s' hne hs hs' y hy => ?_, fun y hy => by simp [AVal.blks] at hy, fun c s hs y hy => ?_⟩
    · have e1 := List.eq_of_mem_replicate (List.mem_of_getElem? hs)
      have e2 := List.eq_of_mem_replicate (List.mem_of_getElem? hx)
      subst e1; subst e2
      exact ⟨rfl, rfl, rfl, rfl, rfl, rfl, Sl.nil, Gl.nil⟩
    · have e1 := List.eq_of_mem_replicate (List.mem_of_getElem? hs)
      subst e1
      simp [seat0, AVal.blks] at hy
    · have e1 := List.eq_of_mem_replicate (List.mem_of_getElem? hs)
      subst e1
      simp [seat0, AVal.blks] at hy
  have q3 : DeskD h3 d br (List.replicate 7 rc0) (List.replicate 7 cl0) := by
    refine ⟨od, by simp, by simp, fun c s x hs hx => ?_⟩
    have e1 := List.eq_of_mem_replicate (List.mem_of_getElem? hs)
    have e2 := List.eq_of_mem_replicate (List.mem_of_getElem? hx)
    subst e1; subst e2
    exact ⟨rfl, rfl, rfl, rfl, rfl, rfl, Sl.nil, Sl.nil⟩
  have d3 : DX 0 (List.replicate 7 cl0) := ⟨fun y hy => by have := List.eq_of_mem_replicate (List.mem_of_getElem? hy); subst this; rfl, fun c x hx => by
    have := List.eq_of_mem_replicate (List.mem_of_getElem? hx)
    subst this
    exact ⟨by simp [cl0], by simp [cl0], by simp [cl0], by simp [cl0], by simp [cl0]⟩⟩
  have o3 : DI h3 h3 bf b d br v3 raws .nils .nils 0 0 _ _ _ [] [] := ⟨p3, q3, d3, ⟨Gl.nil, Sl.nil, ((r3.ext x1).ext x2).ext x3, (fd.e x2).e x3⟩, ⟨by simp, by simp, by simp⟩, Nat.le_refl _, by omega, by omega, by omega⟩
  simp [ptr_nil Try.underlying22, J_precentorlaw22_DeskTells_0]
  refine Tells.bind (Tells.loop (fun m t g => ∃ (i : Nat) (pv nv : AVal) (ss : List Seat) (rs : List Rc) (xs : List Cl) (pend : List Cg) (now : List Sx) (K : Nat), t 2 = v3 ∧ t 7 = .ptr bf 0 ∧ t 8 = .ptr b 0 ∧ t 9 = .ptr d 0 ∧ t 10 = pv ∧ t 11 = nv ∧ t 12 = I i ∧ i + m = 50 ∧ K ≤ 300 * i ∧ DI h3 g bf b d br v3 raws pv nv i K ss rs xs pend now)
    (Q := fun p g => p.1 = .exit 0 ∧ p.2 8 = .ptr b 0 ∧ p.2 9 = .ptr d 0 ∧ ∃ (i : Nat) (pv nv : AVal) (ss : List Seat) (rs : List Rc) (xs : List Cl) (pend : List Cg) (now : List Sx) (K : Nat), DI h3 g bf b d br v3 raws pv nv i K ss rs xs pend now) ?_ 50 _ _ ⟨0, .nils, .nils, _, _, _, [], [], 0, by simp, by simp, by simp, by simp, by simp, by simp, by simp, by omega, by omega, o3⟩) ?_
  · rintro m t g ⟨i, pv, nv, ss, rs, xs, pend, now, K, t2, t7, t8, t9, t10, t11, t12, hi, hK, o⟩
    refine Tells.prot fun Q2 hQ2 => ?_
    unfold L_precentorlaw22_DeskTells_8
    by_cases hc : i < 50
    · have hc' : (i : Int) < 50 := by omega
      have wi : IntKind.i64.wrap ((i : Int) + 1) = i + 1 := wrap_id (by omega) (by omega)
      simp [t12, hc, hc', J_precentorlaw22_DeskTells_9, t7]
      refine Tells.bind (Next hX 5 ⟨by decide, by decide⟩ o.r.f (by omega)) ?_
      rintro _ g1 ⟨c, rfl, c0, c1, _, y1, f1⟩
      have c1 := c1 (by decide)
      obtain ⟨c, rfl⟩ : ∃ n : Nat, c = n := ⟨c.toNat, by omega⟩
      have o1 := o.feed y1 f1
      try simp [t7]
      refine Tells.bind (Next hX 9 ⟨by decide, by decide⟩ f1 (by omega)) ?_
      rintro _ g2 ⟨op, rfl, _, _, _, y2, f2⟩
      have o2 := o1.feed y2 f2
      have hc7 : c < 7 := by omega
      -- what is compared behind a question
      have tl : ∀ (t' : T) (g' : Heap) (pv' nv' : AVal) (ss' : List Seat) (rs' : List Rc) (xs' : List Cl) (pend' : List Cg) (now' : List Sx) (K' : Nat), TF t' v3 pv' nv' bf b d i c → t' 14 = .bool true → DI h3 g' bf b d br v3 raws pv' nv' (i + 1) K' ss' rs' xs' pend' now' → K' ≤ K + 200 →
          Tells (fun m => J_precentorlaw22_DeskTells_11 Try.prog (acallX Try.prog X m) m (blkK 1 (sqK (J_precentorlaw22_DeskTells_10 Try.prog (acallX Try.prog X m) m okK) okK)) t' g') Q2 := by
        intro t' g' pv' nv' ss' rs' xs' pend' now' K' tf' e14 o' hk'
        -- op_tail speaks of the question's place: i + 1 is behind it
        have tf2 : ∀ {u : T}, TF u v3 pv' nv' bf b d i c → TF u v3 pv' nv' bf b d i c := fun h => h
        refine op_tail hX o' tf' hc7 (by omega) e14 (KK := fun m => blkK 1 (sqK (J_precentorlaw22_DeskTells_10 Try.prog (acallX Try.prog X m) m okK) okK)) fun u g3 tu ou => ?_
        obtain ⟨u2, u7, u8, u9, u10, u11, u12, u13⟩ := tu
        simp [J_precentorlaw22_DeskTells_10, u12, wi]
        exact Tells.ok (hQ2 _ _ (.inl ⟨rfl, m - 1, by omega, i + 1, pv', nv', ss', rs', xs', pend', now', K', by simp [u2], by simp [u7], by simp [u8], by simp [u9], by simp [u10], by simp [u11], by simp, by omega, by omega, ou⟩))
      -- behind a question
      have aft : After h3 bf b d br v3 raws i c K (fun m => blkK 2 (sqK (J_precentorlaw22_DeskTells_11 Try.prog (acallX Try.prog X m) m (blkK 1 (sqK (J_precentorlaw22_DeskTells_10 Try.prog (acallX Try.prog X m) m okK) okK))) (blkK 1 (sqK (J_precentorlaw22_DeskTells_10 Try.prog (acallX Try.prog X m) m okK) okK)))) Q2 := by
        intro t' g' pv' nv' ss' rs' xs' pend' now' K' tf' e14 o' hk'
        simp
        exact tl t' g' pv' nv' ss' rs' xs' pend' now' K' tf' e14 o' hk'
      by_cases h0 : op = 0
      · subst h0
        simp [t8, t9]
        obtain ⟨x, hx⟩ : ∃ x, xs[c]? = some x := ⟨_, List.getElem?_eq_getElem (by rw [o.p.l2]; exact hc7)⟩
        have cb := o.x.s c x hx
        refine Tells.bind (p_Attach hX o2.p hx) ?_
        rintro _ g3 ⟨rfl, ⟨ss', p3'⟩, e3⟩
        obtain ⟨q3', r3', le3⟩ := o2.prog e3 (fun y hy => .inl (by simpa using hy))
        refine Tells.bind (d_Attach hX q3' hx) ?_
        rintro _ g4 ⟨rfl, ⟨rs', q4⟩, e4⟩
        have dpv : ∀ y, y ∈ pv.blks → y ∉ [d] := fun y hy q => by
          simp at q; subst q
          have := (r3'.gp.1.blk _ hy).1
          rw [q3'.o.2.1] at this; cases this
        have p4 := p3'.ext e4 (by simpa using o.n1) (fun y hy => .inl (by simp at hy; subst hy; exact q3'.o.2.1))
        have r4 := r3'.ext e4 (by simpa using o.n3) dpv
        have cb' : ClB (i + 1) (attX c x) := by
          unfold attX
          split
          · exact ⟨cb.l0, by have := cb.l1; simp; omega, by have := cb.lg; simp; omega, cb.at_, cb.sb⟩
          · exact cb.up
        have hz' : c = 0 → (attX c x).here = false := fun q => by
          subst q
          have : attX 0 x = x := by simp [attX, attE]
          rw [this]
          exact o.x.z x hx
        simp
        exact tl _ g4 pv nv ss' rs' _ pend now (K + 2) ⟨by simp [t2], by simp [t7], by simp [t8], by simp [t9], by simp [t10], by simp [t11], by simp [t12], by simp⟩ (by simp) ⟨p4, q4, o.x.set hx cb' hz', r4, ⟨by have := o.z.n; omega, o.z.p, o.z.s⟩, Nat.le_trans le3 e4.next, o.n1, o.n2, o.n3⟩ (by omega)
      · by_cases h1 : op = 1
        · subst h1
          simp
          exact op_13 hX o2 ⟨by simp [t2], by simp [t7], by simp [t8], by simp [t9], by simp [t10], by simp [t11], by simp [t12], by simp⟩ hc7 (by omega) (by omega) (by simp) (op := 1) (by simp) (bb := true) (by simp) (K0 := K) (by omega) aft
        · simp [beq_eq_false_iff_ne.2 h0, beq_eq_false_iff_ne.2 h1]
          exact op_13 hX o2 ⟨by simp [t2], by simp [t7], by simp [t8], by simp [t9], by simp [t10], by simp [t11], by simp [t12], by simp⟩ hc7 (by omega) (by omega) (by simp) (op := op) (by simp) (bb := op == 2) (by simp) (K0 := K) (by omega) aft
    · have hc' : ¬ (i : Int) < 50 := by omega
      simp [t12, hc, hc']
      exact Tells.ok (hQ2 _ _ (.inr ⟨by simp, rfl, by simp [t8], by simp [t9], i, pv, nv, ss, rs, xs, pend, now, K, o⟩))
  · rintro ⟨ex, t⟩ g ⟨rfl, t8, t9, i, pv, nv, ss, rs, xs, pend, now, K, o⟩
    simp only at t8 t9
    try simp
    exact (desk_end hX o t8 t9).mono fun r h' e => hQ r h' e
end
end Go.Proofs.Ytbolfamaffbnnaa
