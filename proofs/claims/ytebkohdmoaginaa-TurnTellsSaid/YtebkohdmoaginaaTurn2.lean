/-
  What the document's own Turn tells.
-/
import Derived.Test.YtebkohdmoaginaaTurn1
import Derived.Test.YtebkohdmoaginaaRefK
import Derived.Test.YtebkohdmoaginaaRefPut
import Derived.Test.YtebkohdmoaginaaSprecentorref14
import Derived.Test.YtebkohdmoaginaaSprecentorref1
set_option linter.unusedVariables false
set_option linter.unusedSimpArgs false
namespace Go.Proofs.Ytebkohdmoaginaa
open Go.Ab

/-- The document's Turn of a broker. -/
structure RT (h : Heap) (br : Nat) (v : AVal) (ys : List Int) (b ep : Int) (st rd : Bool) (sv : AVal) (S : List Int) (rv : AVal) (cs : List Ch) : Prop where
  o : Ob h br [v, I b, I ep, .bool st, .bool rd, sv, rv]
  y : Sl intR h v ys
  s : Sl intR h sv S
  c : Sl chG h rv cs
theorem RT.ext {T : List Nat} {h h' : Heap} {br : Nat} {v : AVal} {ys : List Int} {b ep : Int} {st rd : Bool} {sv : AVal} {S : List Int} {rv : AVal} {cs : List Ch} (o : RT h br v ys b ep st rd sv S rv cs) (x : Ext T h h') (h1 : br ∉ T) : RT h' br v ys b ep st rd sv S rv cs :=
  ⟨o.o.ext x h1, o.y.ext x, o.s.ext x, o.c.ext x⟩

section
variable {X : XTab} {h : Heap} {br : Nat} {v : AVal} {ys : List Int} {b ep : Int} {st rd : Bool} {sv : AVal} {S : List Int} {rv : AVal} {cs : List Ch}

theorem rturn_New (hX : OnlyKnown X) {h : Heap} {v : AVal} {ys : List Int} (o : Sl intR h v ys) (ok : TreeOk ys) (h7 : ys.length ≤ 7) {b : Int} (b0 : 0 ≤ b) :
    Tells (fun q => acallX Try.prog X q F_precentorref14_NewTurn [v, I b] h) fun a h' => Ext [] h h' ∧ ((b ≤ ys.length ∧ ∃ br, a = .tup [.ptr br 0, I 0] ∧ RT h' br v ys b 0 false false .nils [] .nils [] ∧ h.next ≤ br) ∨ (ys.length < b ∧ a = .tup [.nilp, I 4])) := by
  refine R_precentorref14_NewTurn _ _ (hX _ _ rfl) ?_
  refine Tells.prot fun Q' hQ => ?_
  have hr : rightT ys = true := by
    unfold rightT
    simp only [Bool.and_eq_true, decide_eq_true_eq]
    refine ⟨(rightFrom_all ys 0).2 fun i z hz => ?_, h7⟩
    have := ok i z hz
    simpa using this
  unfold S_precentorref14_NewTurn
  try simp
  refine Tells.bind (RightTree hX o (by omega)) ?_
  rintro _ h ⟨rfl, rfl⟩
  simp [hr, J_precentorref14_NewTurn_0, show ¬ b < 0 by omega, o.len]
  refine Tells.cb (fun hc => ?_) (fun hc => ?_)
  · simp at hc
    try simp
    exact Tells.ok (hQ _ _ ⟨.refl, .inr ⟨hc, rfl⟩⟩)
  · simp at hc
    simp [J_precentorref14_NewTurn_1, bldR, fillR, splice, o.known, o.cells]
    refine Tells.box rfl rfl fun h3 bt o3 x3 l3 => ?_
    try simp
    exact Tells.ok (hQ _ _ ⟨x3, .inl ⟨hc, bt, rfl, ⟨by simpa using o3, o.ext x3, Sl.nil, Sl.nil⟩, l3⟩⟩)

theorem rturn_Begin (hX : OnlyKnown X) (o : RT h br v ys b ep st rd sv S rv cs) :
    Tells (fun q => acallX Try.prog X q F_precentorref14_Turn_Begin [.ptr br 0] h) fun a h' => a = .bool (decide (b = 0) && !st && decide (0 < cs.length)) ∧ RT h' br v ys b ep (st || (decide (b = 0) && decide (0 < cs.length))) rd sv S rv cs ∧ Ext [br] h h' := by
  refine R_precentorref14_Turn_Begin _ (hX _ _ rfl) ?_
  refine Tells.prot fun Q' hQ => ?_
  unfold S_precentorref14_Turn_Begin
  by_cases hb : b = 0
  · subst hb
    cases st with
    | true =>
      simp [nckR, o.o.1]
      exact Tells.ok (hQ _ _ ⟨rfl, o, .refl⟩)
    | false =>
      by_cases hn : cs.length = 0
      · simp [nckR, o.o.1, o.c.len, hn]
        exact Tells.ok (hQ _ _ ⟨by simp [hn], by simpa [hn] using o, .refl⟩)
      · have hn2 : ((cs.length : Int) == 0) = false := beq_eq_false_iff_ne.2 (by omega)
        have hp : 0 < cs.length := by omega
        simp [nckR, o.o.1, o.c.len, hn2, J_precentorref14_Turn_Begin_0]
        refine Tells.st1 o.o (by rfl) (by rfl) (by simp) fun h1 o1 x1 => ?_
        try simp
        exact Tells.ok (hQ _ _ ⟨by simp [hp], ⟨by simpa [hp] using o1, o.y.ext x1, o.s.ext x1, o.c.ext x1⟩, x1⟩)
  · have hb2 : (b != 0) = true := by simp [hb]
    simp [nckR, o.o.1, hb2]
    exact Tells.ok (hQ _ _ ⟨by simp [hb], by simpa [hb] using o, .refl⟩)

theorem rturn_Stop (hX : OnlyKnown X) (o : RT h br v ys b ep st rd sv S rv cs) (e : Int) :
    Tells (fun q => acallX Try.prog X q F_precentorref14_Turn_Stop [.ptr br 0, I e] h) fun a h' => a = .bool (!decide (b = 0) && !st && decide (e = ep)) ∧ RT h' br v ys b ep (st || (!decide (b = 0) && decide (e = ep))) rd sv S rv cs ∧ Ext [br] h h' := by
  refine R_precentorref14_Turn_Stop _ _ (hX _ _ rfl) ?_
  refine Tells.prot fun Q' hQ => ?_
  unfold S_precentorref14_Turn_Stop
  by_cases hb : b = 0
  · subst hb
    simp [nckR, o.o.1]
    exact Tells.ok (hQ _ _ ⟨rfl, by simpa using o, .refl⟩)
  · have hb2 : (b == 0) = false := beq_eq_false_iff_ne.2 hb
    cases st with
    | true =>
      simp [nckR, o.o.1, hb2]
      exact Tells.ok (hQ _ _ ⟨by simp, by simpa using o, .refl⟩)
    | false =>
      by_cases hn : e = ep
      · subst hn
        simp [nckR, o.o.1, hb2, J_precentorref14_Turn_Stop_0]
        refine Tells.st1 o.o (by rfl) (by rfl) (by simp) fun h1 o1 x1 => ?_
        try simp
        exact Tells.ok (hQ _ _ ⟨by simp [hb], ⟨by simpa [hb] using o1, o.y.ext x1, o.s.ext x1, o.c.ext x1⟩, x1⟩)
      · have hb3 : (e != ep) = true := by simp [hn]
        simp [nckR, o.o.1, hb2, hb3]
        exact Tells.ok (hQ _ _ ⟨by simp [hn], by simpa [hn] using o, .refl⟩)

theorem rturn_Quiet (hX : OnlyKnown X) (o : RT h br v ys b ep st rd sv S rv cs) (hy : ys.length ≤ 100) (hS : S.length ≤ 100) (hT : isT ys b = true) (x e : Int) :
    Tells (fun q => acallX Try.prog X q F_precentorref14_Turn_Quiet [.ptr br 0, I x, I e] h) fun a h' => Ext [br] h h' ∧
      ((st = true ∧ e = ep ∧ x ∈ kidsN b 0 ys ∧ x ∉ S ∧ a = .bool true ∧ ∃ sv', RT h' br v ys b ep st rd sv' (putL S x) rv cs) ∨
       (¬ (st = true ∧ e = ep ∧ x ∈ kidsN b 0 ys ∧ x ∉ S) ∧ a = .bool false ∧ RT h' br v ys b ep st rd sv S rv cs)) := by
  refine R_precentorref14_Turn_Quiet _ _ _ (hX _ _ rfl) ?_
  refine Tells.prot fun Q' hQ => ?_
  unfold S_precentorref14_Turn_Quiet
  cases st with
  | false =>
    simp [nckR, o.o.1]
    exact Tells.ok (hQ _ _ ⟨.refl, .inr ⟨by simp, rfl, o⟩⟩)
  | true =>
    by_cases he : e = ep
    · subst he
      have hk : kidsF ys b = kidsN b 0 ys := by unfold kidsF; rw [if_pos hT]
      have kl := kidsN_len b 0 ys
      simp [nckR, o.o.1]
      refine Tells.cbE (ref_Kids hX o.y (by omega) b) ?_
      rintro kv h1 ⟨gk, x1⟩
      rw [hk] at gk
      try simp
      refine Tells.cbE (ref_In hX gk.1 (by omega) x) ?_
      rintro _ h1 ⟨rfl, rfl⟩
      have o1 := o.ext x1 (by simp)
      have hin : ∀ l : List Int, l.any (· == x) = decide (x ∈ l) := fun l => by rw [Bool.eq_iff_iff]; simp
      by_cases hm : x ∈ kidsN b 0 ys
      · simp [hin, hm, nckR, o1.o.1]
        refine Tells.cbE (ref_In hX o1.s (by omega) x) ?_
        rintro _ h1 ⟨rfl, rfl⟩
        by_cases hms : x ∈ S
        · simp [hin, hms]
          exact Tells.ok (hQ _ _ ⟨x1.of, .inr ⟨by simp [hms], rfl, o1⟩⟩)
        · simp [hin, hms, J_precentorref14_Turn_Quiet_0, nckR, o1.o.1]
          refine Tells.bind (ref_Put hX o1.s (by omega) x) ?_
          rintro sv' h2 ⟨s2, x2⟩
          have o2 := o1.ext x2 (by simp)
          try simp
          refine Tells.st1 o2.o s2.cells s2.one (by simp) fun h3 o3 x3 => ?_
          try simp
          exact Tells.ok (hQ _ _ ⟨(x1.trans x2).of.trans x3, .inl ⟨rfl, rfl, hm, hms, rfl, sv', ⟨by simpa using o3, o2.y.ext x3, s2.ext x3, o2.c.ext x3⟩⟩⟩)
      · simp [hin, hm]
        exact Tells.ok (hQ _ _ ⟨x1.of, .inr ⟨by simp [hm], rfl, o1⟩⟩)
    · have hb : (e != ep) = true := by simp [he]
      simp [nckR, o.o.1, hb]
      exact Tells.ok (hQ _ _ ⟨.refl, .inr ⟨by simp [he], rfl, o⟩⟩)

theorem rturn_Ready (hX : OnlyKnown X) (o : RT h br v ys b ep st rd sv S rv cs) (hy : ys.length ≤ 100) (hT : isT ys b = true) (live : Bool) :
    Tells (fun q => acallX Try.prog X q F_precentorref14_Turn_IsReady [.ptr br 0, .bool live] h) fun a h' => a = .bool (st && !live && !rd && decide ((kidsN b 0 ys).length ≤ S.length)) ∧
      RT h' br v ys b ep st (rd || (st && !live && decide ((kidsN b 0 ys).length ≤ S.length))) sv S rv cs ∧ Ext [br] h h' := by
  refine R_precentorref14_Turn_IsReady _ _ (hX _ _ rfl) ?_
  refine Tells.prot fun Q' hQ => ?_
  unfold S_precentorref14_Turn_IsReady
  cases st with
  | false =>
    simp [nckR, o.o.1]
    exact Tells.ok (hQ _ _ ⟨rfl, by simpa using o, .refl⟩)
  | true =>
    cases live with
    | true =>
      simp [nckR, o.o.1]
      exact Tells.ok (hQ _ _ ⟨rfl, by simpa using o, .refl⟩)
    | false =>
      cases rd with
      | true =>
        simp [nckR, o.o.1]
        exact Tells.ok (hQ _ _ ⟨rfl, by simpa using o, .refl⟩)
      | false =>
        have hk : kidsF ys b = kidsN b 0 ys := by unfold kidsF; rw [if_pos hT]
        simp [nckR, o.o.1, o.s.len]
        refine Tells.cbE (ref_Kids hX o.y (by omega) b) ?_
        rintro kv h1 ⟨gk, x1⟩
        rw [hk] at gk
        have o1 := o.ext x1 (by simp)
        by_cases hlt : S.length < (kidsN b 0 ys).length
        · simp [o1.o.1, gk.1.len, hlt]
          exact Tells.ok (hQ _ _ ⟨by simp; omega, by simpa [show ¬ (kidsN b 0 ys).length ≤ S.length by omega] using o1, x1.of⟩)
        · simp [o1.o.1, gk.1.len, hlt, J_precentorref14_Turn_IsReady_0, nckR]
          refine Tells.st1 o1.o (by rfl) (by rfl) (by simp) fun h3 o3 x3 => ?_
          try simp
          have hle : (kidsN b 0 ys).length ≤ S.length := by omega
          exact Tells.ok (hQ _ _ ⟨by simp [hle], ⟨by simpa [hle] using o3, o1.y.ext x3, o1.s.ext x3, o1.c.ext x3⟩, x1.of.trans x3⟩)

theorem rturn_Add (hX : OnlyKnown X) (o : RT h br v ys b ep st rd sv S rv cs) (hl : cs.length < 2 ^ 20) (c : Ch) :
    Tells (fun q => acallX Try.prog X q F_precentorref14_Turn_Add [.ptr br 0, .agg (chC c)] h) fun a h' => a = .bool (decide (b = 0)) ∧ (∃ rv', RT h' br v ys b ep st rd sv S rv' (if b = 0 then cs ++ [c] else cs)) ∧ Ext [br] h h' := by
  refine R_precentorref14_Turn_Add _ _ (hX _ _ rfl) ?_
  refine Tells.prot fun Q' hQ => ?_
  unfold S_precentorref14_Turn_Add
  try simp
  refine Tells.box rfl rfl fun h1 bc oc x1 l1 => ?_
  have oc : Ob h1 bc [.bool c.1, I c.2.1, I 0, I c.2.2, .nils] := oc
  have o1 := o.ext x1 (by simp)
  by_cases hb : b = 0
  · subst hb
    have x2 := Ext.new h1 false []
    have o2 := o1.ext x2 (by simp)
    have oc2 := oc.e x2
    have m1 : h1.next < (h1.new false []).next := by rw [next_new']; omega
    have k1 := o2.o.kill (id := h1.next) (n0_le h1) (by have := o1.o.lt; omega)
    have k2 := oc2.kill (id := h1.next) (n0_le h1) (by have := oc.lt; omega)
    have g0 : Gl chG h1 (h1.new false []) (.sl h1.next 0 0 0 5 true) [] := (Sl.lit (r := chG) (xs := ([] : List Ch)) (css := []) (by rfl) trivial rfl rfl).2
    simp [nckR, o1.o.1, J_precentorref14_Turn_Add_0, bsl0, k1, k2]
    refine Tells.appNE g0 o2.c (by rfl) (by simp; omega) (by decide) x2.next fun s3 h3 g3 x3 y3 z3 => ?_
    have o3 := o2.ext x3 (by have := o1.o.lt; simp [AVal.blks]; omega)
    have oc3 := oc2.ext x3 (by have := oc.lt; simp [AVal.blks]; omega)
    have k3 := oc3.kill (id := h1.next) (by rw [x3.n0]; exact n0_le h1) (by have := oc.lt; omega)
    simp [k3]
    refine Tells.app1E g3 (by rfl) (by rfl) (show chG.rep h3 (chC c) c from rfl) (by rfl) (by rfl) (by simp; omega) (by decide) (Nat.le_trans x2.next x3.next) fun s4 h4 g4 x4 y4 z4 => ?_
    have o4 := o3.ext x4 (fun q => by have := g3.1.ob o3.o; exact this q)
    try simp [nckR]
    refine Tells.st1E o4.o g4.1.cells g4.1.one (by simp) fun h5 o5 x5 => ?_
    try simp
    refine Tells.ok (hQ _ _ ⟨rfl, ⟨s4, ⟨by simpa using o5, o4.y.ext x5, o4.s.ext x5, by simpa using g4.1.ext x5⟩⟩, ?_⟩)
    have y := y4 [] (y3 [] x2)
    exact (x1.trans y).of.trans x5
  · have hb2 : (b != 0) = true := by simp [hb]
    simp [nckR, o1.o.1, hb2]
    exact Tells.ok (hQ _ _ ⟨by simp [hb], ⟨rv, by simpa [hb] using o1⟩, x1.of⟩)

theorem rturn_Open (hX : OnlyKnown X) (o : RT h br v ys b ep st rd sv S rv cs) (he : 0 ≤ ep ∧ ep ≤ 2 ^ 20) {e : Int} (he2 : 0 ≤ e ∧ e < 2 ^ 62) :
    Tells (fun q => acallX Try.prog X q F_precentorref14_Turn_Open [.ptr br 0, I e] h) fun a h' => Ext [br] h h' ∧
      ((st = true ∧ e = ep + 1 ∧ a = .tup [rv, .bool true] ∧ Sl chG h' rv cs ∧ RT h' br v ys b e false false .nils [] .nils []) ∨
       (¬ (st = true ∧ e = ep + 1) ∧ a = .tup [.nils, .bool false] ∧ h' = h)) := by
  refine R_precentorref14_Turn_Open _ _ (hX _ _ rfl) ?_
  refine Tells.prot fun Q' hQ => ?_
  unfold S_precentorref14_Turn_Open
  cases st with
  | false =>
    simp [nckR, o.o.1]
    exact Tells.ok (hQ _ _ ⟨.refl, .inr ⟨by simp, rfl, rfl⟩⟩)
  | true =>
    by_cases hee : e = ep + 1
    · subst hee
      have we : IntKind.i64.wrap ep = ep := wrap_id (by omega) (by omega)
      simp [nckR, o.o.1, we, J_precentorref14_Turn_Open_0]
      refine Tells.st1 o.o (by rfl) (by rfl) (by simp) fun h1 o1 x1 => ?_
      try simp [nckR]
      refine Tells.st1 o1 (by rfl) (by rfl) (by simp) fun h2 o2 x2 => ?_
      try simp [nckR]
      refine Tells.st1 o2 (by rfl) (by rfl) (by simp) fun h3 o3 x3 => ?_
      try simp [nckR]
      refine Tells.st1 o3 (by rfl) (by rfl) (by simp) fun h4 o4 x4 => ?_
      try simp [nckR]
      refine Tells.st1 o4 (by rfl) (by rfl) (by simp) fun h5 o5 x5 => ?_
      have xx : Ext [br] h h5 := (((x1.trans x2).trans x3).trans x4).trans x5
      try simp
      exact Tells.ok (hQ _ _ ⟨xx, .inl ⟨rfl, rfl, rfl, o.c.ext xx, ⟨by simpa using o5, o.y.ext xx, Sl.nil, Sl.nil⟩⟩⟩)
    · have hw : IntKind.i64.wrap (e - 1) = e - 1 := wrap_id (by omega) (by omega)
      have hb : (e - 1 != ep) = true := by simp; omega
      simp [nckR, o.o.1, hw, hb]
      exact Tells.ok (hQ _ _ ⟨.refl, .inr ⟨by simp [hee], rfl, rfl⟩⟩)

theorem same_Sub (hX : OnlyKnown X) (h : Heap) (c d : Int) :
    Tells (fun q => acallX Try.prog X q F_precentorref1_SameSub [.agg [I c, I 0, I d, .nils], .agg [I c, I 0, I d, .nils]] h) fun a h' => a = .bool true ∧ Ext [] h h' := by
  refine R_precentorref1_SameSub _ _ (hX _ _ rfl) ?_
  refine Tells.prot fun Q' hQ => ?_
  unfold S_precentorref1_SameSub
  try simp
  refine Tells.box rfl rfl fun h1 ba oa x1 l1 => ?_
  try simp
  refine Tells.box rfl rfl fun h2 bb ob x2 l2 => ?_
  have oa2 := oa.e x2
  simp [oa2.1, ob.1]
  refine Tells.bind (Q := Q') (R := fun a h' => a = .bool true ∧ h' = h2) ?_ ?_
  · refine R_precentorref1_SameFilter _ _ (hX _ _ rfl) ?_
    refine Tells.prot fun Q2 hQ2 => ?_
    unfold S_precentorref1_SameFilter
    simp [J_precentorref1_SameFilter_0]
    refine Tells.bind (Tells.loop (fun n t g => t 0 = .nils ∧ t 5 = I 0 ∧ g = h2) (Q := fun p g => p.1 = .exit 0 ∧ g = h2) ?_ 0 _ _ ?_) ?_
    · rintro n t g ⟨t0, t5, rfl⟩
      refine Tells.prot fun Q3 hQ3 => ?_
      unfold L_precentorref1_SameFilter_2
      simp [t0, t5]
      exact Tells.ok (hQ3 _ _ (.inr ⟨by simp, rfl, rfl⟩))
    · exact ⟨by simp, by simp, rfl⟩
    · rintro ⟨ex, t⟩ g ⟨rfl, rfl⟩
      simp [J_precentorref1_SameFilter_1]
      exact Tells.ok (hQ2 _ _ ⟨rfl, rfl⟩)
  · rintro _ h2 ⟨rfl, rfl⟩
    try simp
    exact Tells.ok (hQ _ _ ⟨rfl, x1.trans x2⟩)
end
end Go.Proofs.Ytebkohdmoaginaa
