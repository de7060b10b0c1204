/-
  What the functions of turn tell, at the root of a tree of one.
-/
import Derived.Test.YtnabdpcjkbahaaaB3
import Derived.Test.YtnabdpcjkbahaaaHand0
import Derived.Test.YtnabdpcjkbahaaaSturn
import Derived.Test.YtnabdpcjkbahaaaStree
set_option linter.unusedVariables false
set_option linter.unusedSimpArgs false
namespace Go.Proofs.Ytnabdpcjkbahaaa
open Go.Ab

/-- A change of client 1's, by its number. -/
def chR : Rp Int := ⟨5, by decide, fun _ cs x => cs = [.bool false, I 1, I 0, I x, .nils], fun h => by rw [h]; rfl, fun h => by rw [h]; rfl, fun h _ => h⟩

/-- The root's Turn. -/
def TurnO (h : Heap) (bt : Nat) (ep : Int) (st rd : Bool) (pv : AVal) (nums : List Int) : Prop := ∃ bq, Ob h bt [.bool true, .nils, .sl bq 0 0 0 1 true, I ep, .bool st, .bool rd, pv] ∧ Gl chR Heap.empty h pv nums
theorem TurnO.ext {S : List Nat} {h h' : Heap} {bt : Nat} {ep : Int} {st rd : Bool} {pv : AVal} {nums : List Int} (o : TurnO h bt ep st rd pv nums) (x : Ext S h h') (h1 : bt ∉ S) (h2 : ∀ b, b ∈ pv.blks → b ∉ S) : TurnO h' bt ep st rd pv nums := by
  obtain ⟨bq, o, g⟩ := o
  exact ⟨bq, o.ext x h1, g.ext x h2⟩
theorem TurnO.e {h h' : Heap} {bt : Nat} {ep : Int} {st rd : Bool} {pv : AVal} {nums : List Int} (o : TurnO h bt ep st rd pv nums) (x : Ext [] h h') : TurnO h' bt ep st rd pv nums := o.ext x (by simp) (by simp)

section
variable {X : XTab}

theorem tree_Right0 (hX : OnlyKnown X) (h : Heap) : Tells (fun q => acallX Try.prog X q F_tree_Right [.nils] h) fun r h' => r = .bool true ∧ h' = h := by
  refine R_tree_Right _ (hX _ _ rfl) ?_
  refine Tells.prot fun Q' hQ => ?_
  unfold S_tree_Right
  have hl : lenL .nils = some (I 0) := rfl
  simp [hl]
  refine Tells.bind (Tells.loop (fun n t g => t 0 = .nils ∧ t 6 = I 0 ∧ t 7 = I 0 ∧ g = h) (Q := fun p g => p.1 = .exit 0 ∧ p.2 0 = .nils ∧ g = h) ?_ 0 _ _ ?_) ?_
  · rintro n t g ⟨t0, t6, t7, rfl⟩
    refine Tells.prot fun Q2 hQ2 => ?_
    unfold L_tree_Right_1
    simp [t6, t7]
    exact Tells.ok (hQ2 _ _ (.inr ⟨by simp, rfl, by simp [t0], rfl⟩))
  · exact ⟨by simp, by simp, by simp, rfl⟩
  · rintro ⟨ex, t⟩ g ⟨rfl, t0, rfl⟩
    simp only at t0
    simp [J_tree_Right_0, t0, hl]
    exact Tells.ok (hQ _ _ ⟨rfl, rfl⟩)

theorem tree_is0 (hX : OnlyKnown X) (h : Heap) : Tells (fun q => acallX Try.prog X q F_tree_is [.nils, I 0] h) fun r h' => r = .bool true ∧ h' = h := by
  refine R_tree_is _ _ (hX _ _ rfl) ?_
  refine Tells.prot fun Q' hQ => ?_
  unfold S_tree_is
  have hl : lenL .nils = some (I 0) := rfl
  simp
  refine Tells.bind (tree_Right0 hX h) ?_
  rintro _ h ⟨rfl, rfl⟩
  simp [hl]
  exact Tells.ok (hQ _ _ ⟨rfl, rfl⟩)

theorem tree_Kids0 (hX : OnlyKnown X) (h : Heap) : Tells (fun q => acallX Try.prog X q F_tree_Kids [.nils, I 0] h) fun r h' => r = .nils ∧ h' = h := by
  refine R_tree_Kids _ _ (hX _ _ rfl) ?_
  refine Tells.prot fun Q' hQ => ?_
  unfold S_tree_Kids
  have hl : lenL .nils = some (I 0) := rfl
  simp
  refine Tells.bind (tree_is0 hX h) ?_
  rintro _ h ⟨rfl, rfl⟩
  simp [J_tree_Kids_0, hl]
  refine Tells.bind (Tells.loop (fun n t g => t 5 = .nils ∧ t 14 = I 0 ∧ t 15 = I 0 ∧ g = h) (Q := fun p g => p.1 = .exit 0 ∧ p.2 5 = .nils ∧ g = h) ?_ 0 _ _ ?_) ?_
  · rintro n t g ⟨t5, t14, t15, rfl⟩
    refine Tells.prot fun Q2 hQ2 => ?_
    unfold L_tree_Kids_2
    simp [t14, t15]
    exact Tells.ok (hQ2 _ _ (.inr ⟨by simp, rfl, by simp [t5], rfl⟩))
  · exact ⟨by simp, by simp, by simp, rfl⟩
  · rintro ⟨ex, t⟩ g ⟨rfl, t5, rfl⟩
    simp only at t5
    simp [J_tree_Kids_1, t5]
    exact Tells.ok (hQ _ _ ⟨rfl, rfl⟩)

theorem mak0 {β : Type} {Q : β → Heap → Prop} {h : Heap} {call : Nat → FuncId → List AVal → Heap → Res AVal} {f : Nat → AVal → Heap → Res β}
    (q : ∀ h1 b, Ext [] h h1 → Tells (fun m => f m (.sl b 0 0 0 1 true) h1) Q) : Tells (fun m => arb (makR 1 1 [.bool false] h (I 0) (I 0)) (call m) (f m)) Q :=
  q _ _ (Ext.new h true _)

theorem turn_New (hX : OnlyKnown X) (h : Heap) : Tells (fun q => acallX Try.prog X q F_turn_New [.nils, I 0] h) fun a h' => ∃ bt, a = .tup [.ptr bt 0, I 0] ∧ TurnO h' bt 0 false false .nils [] ∧ Ext [] h h' ∧ h.next ≤ bt := by
  refine R_turn_New _ _ (hX _ _ rfl) ?_
  refine Tells.prot fun Q' hQ => ?_
  unfold S_turn_New
  have hl : lenL .nils = some (I 0) := rfl
  simp
  refine Tells.bind (tree_Right0 hX h) ?_
  rintro _ h ⟨rfl, rfl⟩
  simp [hl, J_turn_New_0]
  refine Tells.bind (tree_Kids0 hX h) ?_
  rintro _ h ⟨rfl, rfl⟩
  simp [hl]
  refine mak0 fun h1 bq x1 => ?_
  simp [bldR, fillR, splice]
  refine Tells.box rfl rfl fun h2 bt o2 x2 l2 => ?_
  try simp
  have := x1.next
  exact Tells.ok (hQ _ _ ⟨bt, rfl, ⟨bq, o2, Gl.nil⟩, x1.trans x2, by omega⟩)

theorem turn_Stopped (hX : OnlyKnown X) {h : Heap} {bt : Nat} {ep : Int} {st rd : Bool} {pv : AVal} {nums : List Int} (o : TurnO h bt ep st rd pv nums) :
    Tells (fun q => acallX Try.prog X q F_turn_Turn_Stopped [.ptr bt 0] h) fun a h' => a = .bool st ∧ h' = h := by
  obtain ⟨bq, o, g⟩ := o
  refine R_turn_Turn_Stopped _ (hX _ _ rfl) ?_
  refine Tells.prot fun Q' hQ => ?_
  unfold S_turn_Turn_Stopped
  simp [nckR, o.1]
  exact Tells.ok (hQ _ _ ⟨rfl, rfl⟩)
theorem turn_Epoch (hX : OnlyKnown X) {h : Heap} {bt : Nat} {ep : Int} {st rd : Bool} {pv : AVal} {nums : List Int} (o : TurnO h bt ep st rd pv nums) :
    Tells (fun q => acallX Try.prog X q F_turn_Turn_Epoch [.ptr bt 0] h) fun a h' => a = I ep ∧ h' = h := by
  obtain ⟨bq, o, g⟩ := o
  refine R_turn_Turn_Epoch _ (hX _ _ rfl) ?_
  refine Tells.prot fun Q' hQ => ?_
  unfold S_turn_Turn_Epoch
  simp [nckR, o.1]
  exact Tells.ok (hQ _ _ ⟨rfl, rfl⟩)
theorem turn_Pending (hX : OnlyKnown X) {h : Heap} {bt : Nat} {ep : Int} {st rd : Bool} {pv : AVal} {nums : List Int} (o : TurnO h bt ep st rd pv nums) :
    Tells (fun q => acallX Try.prog X q F_turn_Turn_Pending [.ptr bt 0] h) fun a h' => a = I nums.length ∧ h' = h := by
  obtain ⟨bq, o, g⟩ := o
  refine R_turn_Turn_Pending _ (hX _ _ rfl) ?_
  refine Tells.prot fun Q' hQ => ?_
  unfold S_turn_Turn_Pending
  simp [nckR, o.1, g.1.len]
  exact Tells.ok (hQ _ _ ⟨rfl, rfl⟩)

theorem turn_Begin (hX : OnlyKnown X) {h : Heap} {bt : Nat} {ep : Int} {st rd : Bool} {pv : AVal} {nums : List Int} (o : TurnO h bt ep st rd pv nums) :
    Tells (fun q => acallX Try.prog X q F_turn_Turn_Begin [.ptr bt 0] h) fun a h' => a = .bool (!st && decide (0 < nums.length)) ∧ TurnO h' bt ep (st || decide (0 < nums.length)) rd pv nums ∧ Ext [bt] h h' := by
  obtain ⟨bq, o, g⟩ := o
  refine R_turn_Turn_Begin _ (hX _ _ rfl) ?_
  refine Tells.prot fun Q' hQ => ?_
  unfold S_turn_Turn_Begin
  cases st with
  | true =>
    simp [nckR, o.1]
    exact Tells.ok (hQ _ _ ⟨rfl, ⟨bq, by simpa using o, g⟩, .refl⟩)
  | false =>
    by_cases hn : nums.length = 0
    · simp [nckR, o.1, g.1.len, hn]
      exact Tells.ok (hQ _ _ ⟨by simp [hn], ⟨bq, by simpa [hn] using o, g⟩, .refl⟩)
    · have hn2 : ((nums.length : Int) == 0) = false := beq_eq_false_iff_ne.2 (by omega)
      simp [nckR, o.1, g.1.len, hn2, J_turn_Turn_Begin_0]
      refine Tells.st1 o (by rfl) (by rfl) (by simp) fun h1 o1 x1 => ?_
      try simp
      have hp : 0 < nums.length := by omega
      exact Tells.ok (hQ _ _ ⟨by simp [hp], ⟨bq, by simpa [hp] using o1, g.ext x1 (fun b hb q => by simp at q; subst q; exact g.1.ob o hb)⟩, x1⟩)

theorem turn_Ready (hX : OnlyKnown X) {h : Heap} {bt : Nat} {ep : Int} {st rd : Bool} {pv : AVal} {nums : List Int} (o : TurnO h bt ep st rd pv nums) :
    Tells (fun q => acallX Try.prog X q F_turn_Turn_Ready [.ptr bt 0, .bool false] h) fun a h' => a = .bool (st && !rd) ∧ (∃ rd', TurnO h' bt ep st rd' pv nums) ∧ Ext [bt] h h' := by
  obtain ⟨bq, o, g⟩ := o
  refine R_turn_Turn_Ready _ _ (hX _ _ rfl) ?_
  refine Tells.prot fun Q' hQ => ?_
  unfold S_turn_Turn_Ready
  have hl : lenL (.sl bq 0 0 0 1 true) = some (I 0) := rfl
  cases st with
  | false =>
    simp [nckR, o.1]
    exact Tells.ok (hQ _ _ ⟨rfl, ⟨rd, bq, o, g⟩, .refl⟩)
  | true =>
    cases rd with
    | true =>
      simp [nckR, o.1]
      exact Tells.ok (hQ _ _ ⟨rfl, ⟨true, bq, o, g⟩, .refl⟩)
    | false =>
      simp [nckR, o.1, J_turn_Turn_Ready_0, hl]
      refine Tells.bind (Tells.loop (fun n t g => t 0 = .ptr bt 0 ∧ t 25 = I 0 ∧ t 26 = I 0 ∧ g = h) (Q := fun p g => p.1 = .exit 0 ∧ p.2 0 = .ptr bt 0 ∧ g = h) ?_ 0 _ _ ?_) ?_
      · rintro n t g ⟨t0, t25, t26, rfl⟩
        refine Tells.prot fun Q2 hQ2 => ?_
        unfold L_turn_Turn_Ready_2
        simp [t25, t26]
        exact Tells.ok (hQ2 _ _ (.inr ⟨by simp, rfl, by simp [t0], rfl⟩))
      · exact ⟨by simp, by simp, by simp, rfl⟩
      · rintro ⟨ex, t⟩ h ⟨rfl, t0, rfl⟩
        simp only at t0
        simp [J_turn_Turn_Ready_1, t0, nckR]
        refine Tells.st1 o (by rfl) (by rfl) (by simp) fun h1 o1 x1 => ?_
        try simp
        exact Tells.ok (hQ _ _ ⟨rfl, ⟨true, bq, by simpa using o1, g.ext x1 (fun b hb q => by simp at q; subst q; exact g.1.ob o hb)⟩, x1⟩)

theorem turn_clone (hX : OnlyKnown X) {h : Heap} (n : Int) : Tells (fun q => acallX Try.prog X q F_turn_clone [.agg [.bool false, I 1, I 0, I n, .nils]] h) fun a h' => a = .agg [.bool false, I 1, I 0, I n, .nils] ∧ Ext [] h h' := by
  refine R_turn_clone _ (hX _ _ rfl) ?_
  refine Tells.prot fun Q' hQ => ?_
  unfold S_turn_clone
  have hl : lenL .nils = some (I 0) := rfl
  have app0 : ∀ g : Heap, appR 13 144 g .nils .nils = .val .nils g := fun g => by rfl
  simp
  refine Tells.box rfl rfl fun h1 bc oc x1 l1 => ?_
  try simp
  refine Tells.new fun h2 bv ov x2 l2 => ?_
  have m1 := x1.next
  have oc2 := oc.e x2
  have hcv : bc ≠ bv := by have := oc.lt; omega
  simp [oc2.1, app0]
  refine Tells.st1 oc2 (by rfl) (by rfl) (by simp) fun h3 oc3 x3 => ?_
  have oc3 : Ob h3 bc [.bool false, I 1, I 0, I n, .nils] := by simpa using oc3
  have ov3 := ov.ext x3 (by simpa using Ne.symm hcv)
  have x03 : Ext [] h h3 := (x1.trans x2).then x3 (by simp; omega)
  simp [oc3.1, hl]
  refine Tells.bind (Tells.loop (fun n t g => t 1 = .ptr bc 0 ∧ t 2 = .ptr bv 0 ∧ t 13 = I 0 ∧ t 14 = I 0 ∧ g = h3) (Q := fun p g => p.1 = .exit 0 ∧ p.2 1 = .ptr bc 0 ∧ p.2 2 = .ptr bv 0 ∧ g = h3) ?_ 0 _ _ ?_) ?_
  · rintro n t g ⟨t1, t2, t13, t14, rfl⟩
    refine Tells.prot fun Q2 hQ2 => ?_
    unfold L_turn_clone_1
    simp [t13, t14]
    exact Tells.ok (hQ2 _ _ (.inr ⟨by simp, rfl, by simp [t1], by simp [t2], rfl⟩))
  · exact ⟨by simp, by simp, by simp, by simp, rfl⟩
  · rintro ⟨ex, t⟩ h3 ⟨rfl, t1, t2, rfl⟩
    simp only at t1 t2
    simp [J_turn_clone_0, t1, t2, oc3.1]
    refine Tells.stN ov3 (by rfl) (by rfl) (by rfl) (by rfl) fun h9 o9 x9 => ?_
    simp [t2, C_turn_clone_0, o9.1]
    exact Tells.ok (hQ _ _ ⟨rfl, x03.then x9 (by simp; omega)⟩)

theorem turn_Add (hX : OnlyKnown X) {h : Heap} {bt : Nat} {ep : Int} {st rd : Bool} {pv : AVal} {nums : List Int} (o : TurnO h bt ep st rd pv nums) (hl : nums.length < 2 ^ 20) (n : Int) :
    Tells (fun q => acallX Try.prog X q F_turn_Turn_Add [.ptr bt 0, .agg [.bool false, I 1, I 0, I n, .nils]] h) fun a h' => a = .bool true ∧ (∃ pv', TurnO h' bt ep st rd pv' (nums ++ [n]) ∧ ∀ b, b ∈ pv'.blks → b ∈ pv.blks ∨ h.next ≤ b) ∧ Ext (bt :: pv.blks) h h' := by
  obtain ⟨bq, o, g⟩ := o
  refine R_turn_Turn_Add _ _ (hX _ _ rfl) ?_
  refine Tells.prot fun Q' hQ => ?_
  unfold S_turn_Turn_Add
  simp
  refine Tells.box rfl rfl fun h1 bc oc x1 l1 => ?_
  have o1 := o.e x1
  have m1 := x1.next
  simp [nckR, o1.1, oc.1]
  refine Tells.cbE (turn_clone hX n) ?_
  rintro _ h2 ⟨rfl, x2⟩
  have m2 := x2.next
  have o2 := o1.e x2
  have g2 := (g.e x1).e x2
  simp [o1.1, o2.1]
  refine Tells.app1E g2 (by rfl) (by rfl) (show chR.rep h2 [.bool false, I 1, I 0, I n, .nils] n from rfl) (by rfl) (by rfl) (by omega) (by decide) (Nat.zero_le _) fun s3 h3 g3 x3 y3 z3 => ?_
  have o3 := o2.ext x3 (g2.1.ob o2)
  try simp [nckR]
  refine Tells.st1E o3 g3.1.cells g3.1.one (by simp) fun h4 o4 x4 => ?_
  simp [J_turn_Turn_Add_0, nckR, o4.1]
  refine Tells.ok (hQ _ _ ⟨rfl, ⟨s3, ⟨bq, by simpa using o4, g3.ext x4 (fun b hb q => by simp at q; subst q; exact g3.1.ob o3 hb)⟩, fun b hb => ?_⟩, ?_⟩)
  · rcases z3 b hb with q | q
    · exact .inl q
    · exact .inr (by omega)
  · exact ((x1.trans x2).of.trans (x3.mono (fun b hb => by simp [hb]))).trans (x4.mono (by simp))

theorem turn_Open (hX : OnlyKnown X) {h : Heap} {bt : Nat} {ep : Int} {st rd : Bool} {pv : AVal} {nums : List Int} (o : TurnO h bt ep st rd pv nums) (he : 0 ≤ ep ∧ ep ≤ 2 ^ 20) :
    Tells (fun q => acallX Try.prog X q F_turn_Turn_Open [.ptr bt 0, I (ep + 1)] h) fun a h' => Ext [bt] h h' ∧ ((st = false ∧ a = .tup [.nils, .bool false] ∧ TurnO h' bt ep st rd pv nums) ∨ (st = true ∧ a = .tup [pv, .bool true] ∧ TurnO h' bt (ep + 1) false false .nils [] ∧ Sl chR h' pv nums)) := by
  obtain ⟨bq, o, g⟩ := o
  refine R_turn_Turn_Open _ _ (hX _ _ rfl) ?_
  refine Tells.prot fun Q' hQ => ?_
  unfold S_turn_Turn_Open
  have hl : lenL .nils = some (I 0) := rfl
  have we : IntKind.i64.wrap (ep + 1) = ep + 1 := wrap_id (by omega) (by omega)
  cases st with
  | false =>
    simp [nckR, o.1]
    exact Tells.ok (hQ _ _ ⟨.refl, .inl ⟨rfl, rfl, bq, o, g⟩⟩)
  | true =>
    simp [nckR, o.1, we, J_turn_Turn_Open_0]
    refine Tells.st1 o (by rfl) (by rfl) (by simp) fun h1 o1 x1 => ?_
    try simp [nckR]
    refine Tells.st1 o1 (by rfl) (by rfl) (by simp) fun h2 o2 x2 => ?_
    try simp [nckR]
    refine Tells.st1 o2 (by rfl) (by rfl) (by simp) fun h3 o3 x3 => ?_
    try simp [nckR]
    refine Tells.st1 o3 (by rfl) (by rfl) (by simp) fun h4 o4 x4 => ?_
    have o4 : Ob h4 bt [.bool true, .nils, .sl bq 0 0 0 1 true, I (ep + 1), .bool false, .bool false, .nils] := by simpa using o4
    simp [nckR, o4.1, hl]
    refine mak0 fun h5 bq' x5 => ?_
    try simp [nckR]
    refine Tells.st1 (o4.e x5) (by rfl) (by rfl) (by simp) fun h6 o6 x6 => ?_
    have xx : Ext [bt] h h6 := ((((x1.trans x2).trans x3).trans x4).trans x5.of).trans x6
    try simp
    exact Tells.ok (hQ _ _ ⟨xx, .inr ⟨rfl, rfl, ⟨bq', by simpa using o6, Gl.nil⟩, g.1.ext xx⟩⟩)

end
end Go.Proofs.Ytnabdpcjkbahaaa
