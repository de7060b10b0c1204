/-
  What the functions of turn tell, at any broker of a tree.
-/
import Derived.Test.YtebkohdmoaginaaB3
import Derived.Test.YtebkohdmoaginaaMak
import Derived.Test.YtebkohdmoaginaaPath4a
import Derived.Test.YtebkohdmoaginaaSturn
set_option linter.unusedVariables false
set_option linter.unusedSimpArgs false
namespace Go.Proofs.Ytebkohdmoaginaa
open Go.Ab

/-- A change without a filter: gone, client, number. -/
abbrev Ch := Bool × Int × Int
def chC (c : Ch) : List AVal := [.bool c.1, I c.2.1, I 0, I c.2.2, .nils]
def chG : Rp Ch := ⟨5, by decide, fun _ cs x => cs = chC x, fun h => by rw [h]; rfl, fun h => by rw [h]; rfl, fun h _ => h⟩

/-- A broker's Turn. -/
structure TP (h : Heap) (bt bq : Nat) (root : Bool) (kv : AVal) (ks : List Int) (qs : List Bool) (ep : Int) (st rd : Bool) (pv : AVal) (cs : List Ch) : Prop where
  o : Ob h bt [.bool root, kv, .sl bq 0 ks.length ks.length 1 true, I ep, .bool st, .bool rd, pv]
  k : Sl intR h kv ks
  q : Ob h bq (qs.map .bool)
  ne : bt ≠ bq
  l : qs.length = ks.length
  g : Gl chG Heap.empty h pv cs
theorem TP.ext {S : List Nat} {h h' : Heap} {bt bq : Nat} {root : Bool} {kv pv : AVal} {ks : List Int} {qs : List Bool} {ep : Int} {st rd : Bool} {cs : List Ch} (o : TP h bt bq root kv ks qs ep st rd pv cs) (x : Ext S h h') (h1 : bt ∉ S) (h2 : bq ∉ S) (h3 : ∀ b, b ∈ pv.blks → b ∉ S) : TP h' bt bq root kv ks qs ep st rd pv cs :=
  ⟨o.o.ext x h1, o.k.ext x, o.q.ext x h2, o.ne, o.l, o.g.ext x h3⟩
theorem TP.e {h h' : Heap} {bt bq : Nat} {root : Bool} {kv pv : AVal} {ks : List Int} {qs : List Bool} {ep : Int} {st rd : Bool} {cs : List Ch} (o : TP h bt bq root kv ks qs ep st rd pv cs) (x : Ext [] h h') : TP h' bt bq root kv ks qs ep st rd pv cs :=
  o.ext x (by simp) (by simp) (by simp)
/-- Through a heap in which other objects were touched. -/
theorem TP.eo {S : List Nat} {h h' : Heap} {bt bq : Nat} {root : Bool} {kv pv : AVal} {ks : List Int} {qs : List Bool} {ep : Int} {st rd : Bool} {cs : List Ch} (o : TP h bt bq root kv ks qs ep st rd pv cs) (x : Ext S h h') (h1 : bt ∉ S) (h2 : bq ∉ S) (hs : ∀ b, b ∈ S → h.isM b = true ∨ h.next ≤ b) : TP h' bt bq root kv ks qs ep st rd pv cs :=
  ⟨o.o.ext x h1, o.k.ext x, o.q.ext x h2, o.ne, o.l, o.g.extO x hs⟩

section
variable {X : XTab} {h : Heap} {bt bq : Nat} {root : Bool} {kv pv : AVal} {ks : List Int} {qs : List Bool} {ep : Int} {st rd : Bool} {cs : List Ch}

theorem boolC (n : Nat) : zeros [.bool false] n = (List.replicate n false).map AVal.bool := by
  induction n with
  | zero => rfl
  | succ n ih => show [AVal.bool false] ++ zeros [.bool false] n = _; rw [ih]; rfl

theorem turn_New (hX : OnlyKnown X) {h : Heap} {v : AVal} {ys : List Int} (o : Sl intR h v ys) (ok : TreeOk ys) (h7 : ys.length ≤ 7) {b : Int} (b0 : 0 ≤ b) :
    Tells (fun q => acallX Try.prog X q F_turn_New [v, I b] h) fun a h' => Ext [] h h' ∧ ((b ≤ ys.length ∧ ∃ bt bq kv, a = .tup [.ptr bt 0, I 0] ∧ TP h' bt bq (b == 0) kv (kidsN b 0 ys) (List.replicate (kidsN b 0 ys).length false) 0 false false .nils [] ∧ h.next ≤ bt ∧ h.next ≤ bq) ∨ (ys.length < b ∧ a = .tup [.nilp, I 4])) := by
  refine R_turn_New _ _ (hX _ _ rfl) ?_
  refine Tells.prot fun Q' hQ => ?_
  have hr : rightT ys = true := by
    unfold rightT
    simp only [Bool.and_eq_true, decide_eq_true_eq]
    refine ⟨(rightFrom_all ys 0).2 fun i z hz => ?_, h7⟩
    have := ok i z hz
    simpa using this
  unfold S_turn_New
  try simp
  refine Tells.bind (Right hX o (by omega)) ?_
  rintro _ h ⟨rfl, rfl⟩
  simp [hr, show ¬ b < 0 by omega, o.len]
  refine Tells.cb (fun hc => ?_) (fun hc => ?_)
  · simp at hc
    try simp
    exact Tells.ok (hQ _ _ ⟨.refl, .inr ⟨hc, rfl⟩⟩)
  · simp at hc
    have hT : isT ys b = true := by unfold isT; simp [hr, b0, hc]
    have hk : kidsF ys b = kidsN b 0 ys := by unfold kidsF; rw [if_pos hT]
    have kl := kidsN_len b 0 ys
    simp [J_turn_New_0]
    refine Tells.bind (tree_Kids hX o (by omega) b) ?_
    rintro kv h1 ⟨gk, x1⟩
    rw [hk] at gk
    simp [gk.1.len]
    refine Tells.mak (by rfl) (by omega) (by decide) (boolC _) fun h2 bq l2 o2 x2 => ?_
    simp [bldR, fillR, splice, gk.1.known, gk.1.cells]
    refine Tells.box rfl rfl fun h3 bt o3 x3 l3 => ?_
    have k1 := x1.next
    have k2 := x2.next
    have k3 := o2.lt
    try simp
    refine Tells.ok (hQ _ _ ⟨(x1.trans x2).trans x3, .inl ⟨hc, bt, bq, kv, rfl, ⟨by simpa using o3, (gk.1.ext x2).ext x3, o2.e x3, by omega, by simp, Gl.nil⟩, by omega, by omega⟩⟩)

theorem turn_Stopped (hX : OnlyKnown X) (o : TP h bt bq root kv ks qs ep st rd pv cs) : Tells (fun q => acallX Try.prog X q F_turn_Turn_Stopped [.ptr bt 0] h) fun a h' => a = .bool st ∧ h' = h := by
  refine R_turn_Turn_Stopped _ (hX _ _ rfl) ?_
  unfold S_turn_Turn_Stopped
  simp [nckR, o.o.1]
  exact Tells.ok ⟨rfl, rfl⟩
theorem turn_Epoch (hX : OnlyKnown X) (o : TP h bt bq root kv ks qs ep st rd pv cs) : Tells (fun q => acallX Try.prog X q F_turn_Turn_Epoch [.ptr bt 0] h) fun a h' => a = I ep ∧ h' = h := by
  refine R_turn_Turn_Epoch _ (hX _ _ rfl) ?_
  unfold S_turn_Turn_Epoch
  simp [nckR, o.o.1]
  exact Tells.ok ⟨rfl, rfl⟩

theorem turn_Begin (hX : OnlyKnown X) (o : TP h bt bq root kv ks qs ep st rd pv cs) :
    Tells (fun q => acallX Try.prog X q F_turn_Turn_Begin [.ptr bt 0] h) fun a h' => a = .bool (root && !st && decide (0 < cs.length)) ∧ TP h' bt bq root kv ks qs ep (st || (root && decide (0 < cs.length))) rd pv cs ∧ Ext [bt] h h' := by
  refine R_turn_Turn_Begin _ (hX _ _ rfl) ?_
  refine Tells.prot fun Q' hQ => ?_
  unfold S_turn_Turn_Begin
  cases root with
  | false =>
    simp [nckR, o.o.1]
    exact Tells.ok (hQ _ _ ⟨rfl, by simpa using o, .refl⟩)
  | true =>
    cases st with
    | true =>
      simp [nckR, o.o.1]
      exact Tells.ok (hQ _ _ ⟨rfl, o, .refl⟩)
    | false =>
      by_cases hn : cs.length = 0
      · simp [nckR, o.o.1, o.g.1.len, hn]
        exact Tells.ok (hQ _ _ ⟨by simp [hn], by simpa [hn] using o, .refl⟩)
      · have hn2 : ((cs.length : Int) == 0) = false := beq_eq_false_iff_ne.2 (by omega)
        have hp : 0 < cs.length := by omega
        simp [nckR, o.o.1, o.g.1.len, hn2, J_turn_Turn_Begin_0]
        refine Tells.st1 o.o (by rfl) (by rfl) (by simp) fun h1 o1 x1 => ?_
        try simp
        exact Tells.ok (hQ _ _ ⟨by simp [hp], ⟨by simpa [hp] using o1, o.k.ext x1, o.q.ext x1 (by simpa using o.ne.symm), o.ne, o.l, o.g.extO x1 (by simpa using .inl o.o.2.1)⟩, x1⟩)

theorem turn_Stop (hX : OnlyKnown X) (o : TP h bt bq root kv ks qs ep st rd pv cs) (e : Int) :
    Tells (fun q => acallX Try.prog X q F_turn_Turn_Stop [.ptr bt 0, I e] h) fun a h' => a = .bool (!root && !st && decide (e = ep)) ∧ TP h' bt bq root kv ks qs ep (st || (!root && decide (e = ep))) rd pv cs ∧ Ext [bt] h h' := by
  refine R_turn_Turn_Stop _ _ (hX _ _ rfl) ?_
  refine Tells.prot fun Q' hQ => ?_
  unfold S_turn_Turn_Stop
  cases root with
  | true =>
    simp [nckR, o.o.1]
    exact Tells.ok (hQ _ _ ⟨rfl, by simpa using o, .refl⟩)
  | false =>
    cases st with
    | true =>
      simp [nckR, o.o.1]
      exact Tells.ok (hQ _ _ ⟨rfl, o, .refl⟩)
    | false =>
      by_cases hn : e = ep
      · subst hn
        simp [nckR, o.o.1, J_turn_Turn_Stop_0]
        refine Tells.st1 o.o (by rfl) (by rfl) (by simp) fun h1 o1 x1 => ?_
        try simp
        exact Tells.ok (hQ _ _ ⟨by simp, ⟨by simpa using o1, o.k.ext x1, o.q.ext x1 (by simpa using o.ne.symm), o.ne, o.l, o.g.extO x1 (by simpa using .inl o.o.2.1)⟩, x1⟩)
      · have hb : (e != ep) = true := by simp [hn]
        simp [nckR, o.o.1, hb]
        exact Tells.ok (hQ _ _ ⟨by simp [hn], by simpa [hn] using o, .refl⟩)

theorem turn_Quiet (hX : OnlyKnown X) (o : TP h bt bq root kv ks qs ep st rd pv cs) (hl : ks.length ≤ 100) (x e : Int) :
    Tells (fun q => acallX Try.prog X q F_turn_Turn_Quiet [.ptr bt 0, I x, I e] h) fun a h' => Ext [bq] h h' ∧
      ((st = true ∧ e = ep ∧ a = .bool true ∧ ∃ i : Nat, ks[i]? = some x ∧ qs[i]? = some false ∧ TP h' bt bq root kv ks (qs.set i true) ep st rd pv cs) ∨
       (a = .bool false ∧ h' = h ∧ (st = true → e = ep → ∀ i : Nat, ks[i]? = some x → qs[i]? = some true))) := by
  refine R_turn_Turn_Quiet _ _ _ (hX _ _ rfl) ?_
  refine Tells.prot fun Q' hQ => ?_
  unfold S_turn_Turn_Quiet
  cases st with
  | false =>
    simp [nckR, o.o.1]
    exact Tells.ok (hQ _ _ ⟨.refl, .inr ⟨rfl, rfl, by simp⟩⟩)
  | true =>
    by_cases he : e = ep
    · subst he
      simp [nckR, o.o.1, J_turn_Turn_Quiet_0, o.k.len]
      refine Tells.bind (Tells.loop (fun n t g => ∃ i : Nat, t 0 = .ptr bt 0 ∧ t 1 = I x ∧ t 25 = kv ∧ t 26 = I ks.length ∧ t 27 = I i ∧ i + n = ks.length ∧ g = h ∧ ∀ j : Nat, j < i → ks[j]? = some x → qs[j]? = some true)
        (Q := fun p g => (p.1 = .exit 0 ∧ g = h ∧ ∀ j : Nat, ks[j]? = some x → qs[j]? = some true) ∨ (p.1 = .ret ∧ p.2 6 = .bool true ∧ Ext [bq] h g ∧ ∃ i : Nat, ks[i]? = some x ∧ qs[i]? = some false ∧ TP g bt bq root kv ks (qs.set i true) e true rd pv cs)) ?_ ks.length _ _ ?_) ?_
      · rintro n t g ⟨i, t0, t1, t25, t26, t27, hi, rfl, hj⟩
        refine Tells.prot fun Q2 hQ2 => ?_
        unfold L_turn_Turn_Quiet_2
        simp [t26, t27]
        refine Tells.cb (fun hc => ?_) (fun hc => ?_)
        · simp at hc
          obtain ⟨k, hk⟩ : ∃ k, ks[i]? = some k := ⟨_, List.getElem?_eq_getElem hc⟩
          obtain ⟨q, hq⟩ : ∃ q, qs[i]? = some q := ⟨_, List.getElem?_eq_getElem (by rw [o.l]; exact hc)⟩
          obtain ⟨b1, p1, B1, q1, q2, q3⟩ := o.k.atI hk
          have w : IntKind.i64.wrap ((i : Int) + 1) = i + 1 := wrap_id (by omega) (by omega)
          have qa : ixsR 1 (.sl bq 0 ks.length ks.length 1 true) (.int .i64 (i : Int)) = some (.ptr bq (i * 1)) := ixs_made hc
          rw [Nat.mul_one] at qa
          have qb : (qs.map AVal.bool)[i]? = some (.bool q) := by rw [List.getElem?_map, hq]; rfl
          have next : (k = x → q = true) → ∀ j : Nat, j < i + 1 → ks[j]? = some x → qs[j]? = some true := fun hn j hj' hx => by
            by_cases e : j = i
            · subst e; rw [hk] at hx; cases hx; rw [hq, hn rfl]
            · exact hj j (by omega) hx
          by_cases hkx : k = x
          · cases q with
            | false =>
              simp [J_turn_Turn_Quiet_3, t25, t27, q1, q2, q3, t1, hkx, t0, nckR, o.o.1, qa, o.q.1, hq]
              refine Tells.st1 o.q (by rfl) (by rfl) (by simp [o.l]; exact hc) fun h1 o1 x1 => ?_
              try simp
              refine Tells.ok (hQ2 _ _ (.inr ⟨by simp, .inr ⟨rfl, by simp, x1, i, by rw [hk, hkx], hq, ⟨o.o.ext x1 (by simpa using o.ne), o.k.ext x1, ?_, o.ne, by simpa using o.l, o.g.extO x1 (by simpa using .inl o.q.2.1)⟩⟩⟩))
              rw [← List.map_set] at o1
              exact o1
            | true =>
              simp [J_turn_Turn_Quiet_3, t25, t27, q1, q2, q3, t1, hkx, t0, nckR, o.o.1, qa, o.q.1, hq, J_turn_Turn_Quiet_4, w]
              exact Tells.ok (hQ2 _ _ (.inl ⟨rfl, n - 1, by omega, i + 1, by simp [t0], by simp [t1], by simp [t25], by simp [t26], by simp, by omega, rfl, next fun _ => rfl⟩))
          · simp [J_turn_Turn_Quiet_3, t25, t27, q1, q2, q3, t1, beq_eq_false_iff_ne.2 hkx, J_turn_Turn_Quiet_4, w]
            exact Tells.ok (hQ2 _ _ (.inl ⟨rfl, n - 1, by omega, i + 1, by simp [t0], by simp [t1], by simp [t25], by simp [t26], by simp, by omega, rfl, next fun q => absurd q hkx⟩))
        · simp at hc
          refine Tells.ok (hQ2 _ _ (.inr ⟨by simp, .inl ⟨rfl, rfl, fun j hx => hj j ?_ hx⟩⟩))
          have := (List.getElem?_eq_some_iff.1 hx).1
          omega
      · exact ⟨0, by simp, by simp, by simp, by simp, by simp, by omega, rfl, by simp⟩
      · rintro ⟨ex, t⟩ g (⟨rfl, rfl, hj⟩ | ⟨rfl, t6, x1, hi⟩)
        · simp [J_turn_Turn_Quiet_1]
          exact Tells.ok (hQ _ _ ⟨.refl, .inr ⟨rfl, rfl, fun _ _ => hj⟩⟩)
        · simp only at t6
          simp [t6]
          exact Tells.ok (hQ _ _ ⟨x1, .inl ⟨rfl, rfl, rfl, hi⟩⟩)
    · have hb : (e != ep) = true := by simp [he]
      simp [nckR, o.o.1, hb]
      exact Tells.ok (hQ _ _ ⟨.refl, .inr ⟨rfl, rfl, fun _ q => absurd q he⟩⟩)

theorem turn_Ready (hX : OnlyKnown X) (o : TP h bt bq root kv ks qs ep st rd pv cs) (hl : ks.length ≤ 100) (live : Bool) :
    Tells (fun q => acallX Try.prog X q F_turn_Turn_Ready [.ptr bt 0, .bool live] h) fun a h' => a = .bool (st && !live && !rd && qs.all id) ∧ TP h' bt bq root kv ks qs ep st (rd || (st && !live && qs.all id)) pv cs ∧ Ext [bt] h h' := by
  refine R_turn_Turn_Ready _ _ (hX _ _ rfl) ?_
  refine Tells.prot fun Q' hQ => ?_
  unfold S_turn_Turn_Ready
  cases st with
  | false =>
    simp [nckR, o.o.1]
    exact Tells.ok (hQ _ _ ⟨rfl, by simpa using o, .refl⟩)
  | true =>
    cases live with
    | true =>
      simp [nckR, o.o.1]
      exact Tells.ok (hQ _ _ ⟨rfl, by simpa using o, .refl⟩)
    | false =>
      cases rd with
      | true =>
        simp [nckR, o.o.1]
        exact Tells.ok (hQ _ _ ⟨rfl, by simpa using o, .refl⟩)
      | false =>
        have hlen : lenL (.sl bq 0 ks.length ks.length 1 true) = some (I ks.length) := rfl
        simp [nckR, o.o.1, J_turn_Turn_Ready_0, hlen]
        refine Tells.bind (Tells.loop (fun n t g => ∃ i : Nat, t 0 = .ptr bt 0 ∧ t 24 = .sl bq 0 ks.length ks.length 1 true ∧ t 25 = I ks.length ∧ t 26 = I i ∧ i + n = ks.length ∧ g = h ∧ qs.all id = (qs.drop i).all id)
          (Q := fun p g => g = h ∧ ((p.1 = .exit 0 ∧ p.2 0 = .ptr bt 0 ∧ qs.all id = true) ∨ (p.1 = .ret ∧ p.2 4 = .bool false ∧ qs.all id = false))) ?_ ks.length _ _ ?_) ?_
        · rintro n t g ⟨i, t0, t24, t25, t26, hi, rfl, ha⟩
          refine Tells.prot fun Q2 hQ2 => ?_
          unfold L_turn_Turn_Ready_2
          simp [t25, t26]
          refine Tells.cb (fun hc => ?_) (fun hc => ?_)
          · simp at hc
            have hc' : i < qs.length := by rw [o.l]; exact hc
            obtain ⟨q, hq⟩ : ∃ q, qs[i]? = some q := ⟨_, List.getElem?_eq_getElem hc'⟩
            have w : IntKind.i64.wrap ((i : Int) + 1) = i + 1 := wrap_id (by omega) (by omega)
            have qa : ixsR 1 (.sl bq 0 ks.length ks.length 1 true) (.int .i64 (i : Int)) = some (.ptr bq (i * 1)) := ixs_made hc
            rw [Nat.mul_one] at qa
            have hd : qs.drop i = q :: qs.drop (i + 1) := by
              rw [List.drop_eq_getElem_cons hc', (List.getElem?_eq_some_iff.1 hq).2]
            rw [hd, List.all_cons] at ha
            cases q with
            | false =>
              simp [J_turn_Turn_Ready_3, t24, t26, qa, o.q.1, hq]
              exact Tells.ok (hQ2 _ _ (.inr ⟨by simp, rfl, .inr ⟨rfl, by simp, by rw [ha]; rfl⟩⟩))
            | true =>
              simp [J_turn_Turn_Ready_3, t24, t26, qa, o.q.1, hq, J_turn_Turn_Ready_4, w]
              exact Tells.ok (hQ2 _ _ (.inl ⟨rfl, n - 1, by omega, i + 1, by simp [t0], by simp [t24], by simp [t25], by simp, by omega, rfl, by rw [ha]; rfl⟩))
          · simp at hc
            refine Tells.ok (hQ2 _ _ (.inr ⟨by simp, rfl, .inl ⟨rfl, by simp [t0], ?_⟩⟩))
            rw [ha, List.drop_eq_nil_of_le (by rw [o.l]; omega)]
            rfl
        · exact ⟨0, by simp, by simp, by simp, by simp, by omega, rfl, rfl⟩
        · rintro ⟨ex, t⟩ h ⟨rfl, ⟨rfl, t0, ha⟩ | ⟨rfl, t4, ha⟩⟩
          · simp only at t0
            simp [J_turn_Turn_Ready_1, t0, nckR]
            refine Tells.st1 o.o (by rfl) (by rfl) (by simp) fun h1 o1 x1 => ?_
            try simp
            exact Tells.ok (hQ _ _ ⟨by rw [ha]; rfl, ⟨by rw [ha]; simpa using o1, o.k.ext x1, o.q.ext x1 (by simpa using o.ne.symm), o.ne, o.l, o.g.extO x1 (by simpa using .inl o.o.2.1)⟩, x1⟩)
          · simp only at t4
            simp [t4]
            exact Tells.ok (hQ _ _ ⟨by rw [ha]; rfl, by rw [ha]; simpa using o, .refl⟩)

theorem turn_clone (hX : OnlyKnown X) {h : Heap} (c : Ch) : Tells (fun q => acallX Try.prog X q F_turn_clone [.agg (chC c)] h) fun a h' => a = .agg (chC c) ∧ Ext [] h h' := by
  refine R_turn_clone _ (hX _ _ rfl) ?_
  refine Tells.prot fun Q' hQ => ?_
  unfold S_turn_clone
  have hl : lenL .nils = some (I 0) := rfl
  have app0 : ∀ g : Heap, appR 13 144 g .nils .nils = .val .nils g := fun g => by rfl
  try simp
  refine Tells.box rfl rfl fun h1 bc oc x1 l1 => ?_
  have oc : Ob h1 bc [.bool c.1, I c.2.1, I 0, I c.2.2, .nils] := oc
  try simp
  refine Tells.new fun h2 bv ov x2 l2 => ?_
  have m1 := x1.next
  have oc2 := oc.e x2
  have hcv : bc ≠ bv := by have := oc.lt; omega
  simp [oc2.1, app0]
  refine Tells.st1 oc2 (by rfl) (by rfl) (by simp) fun h3 oc3 x3 => ?_
  have oc3 : Ob h3 bc [.bool c.1, I c.2.1, I 0, I c.2.2, .nils] := by simpa using oc3
  have ov3 := ov.ext x3 (by simpa using Ne.symm hcv)
  have x03 : Ext [] h h3 := (x1.trans x2).then x3 (by simp; omega)
  simp [oc3.1, hl]
  refine Tells.bind (Tells.loop (fun n t g => t 1 = .ptr bc 0 ∧ t 2 = .ptr bv 0 ∧ t 13 = I 0 ∧ t 14 = I 0 ∧ g = h3) (Q := fun p g => p.1 = .exit 0 ∧ p.2 1 = .ptr bc 0 ∧ p.2 2 = .ptr bv 0 ∧ g = h3) ?_ 0 _ _ ?_) ?_
  · rintro n t g ⟨t1, t2, t13, t14, rfl⟩
    refine Tells.prot fun Q2 hQ2 => ?_
    unfold L_turn_clone_1
    simp [t13, t14]
    exact Tells.ok (hQ2 _ _ (.inr ⟨by simp, rfl, by simp [t1], by simp [t2], rfl⟩))
  · exact ⟨by simp, by simp, by simp, by simp, rfl⟩
  · rintro ⟨ex, t⟩ h3 ⟨rfl, t1, t2, rfl⟩
    simp only at t1 t2
    simp [J_turn_clone_0, t1, t2, oc3.1]
    refine Tells.stN ov3 (by rfl) (by rfl) (by rfl) (by rfl) fun h9 o9 x9 => ?_
    simp [t2, C_turn_clone_0, o9.1]
    exact Tells.ok (hQ _ _ ⟨rfl, x03.then x9 (by simp; omega)⟩)

theorem turn_Add (hX : OnlyKnown X) (o : TP h bt bq root kv ks qs ep st rd pv cs) (hl : cs.length < 2 ^ 20) (c : Ch) :
    Tells (fun q => acallX Try.prog X q F_turn_Turn_Add [.ptr bt 0, .agg (chC c)] h) fun a h' => a = .bool root ∧ (∃ pv', TP h' bt bq root kv ks qs ep st rd pv' (if root then cs ++ [c] else cs) ∧ ∀ b, b ∈ pv'.blks → b ∈ pv.blks ∨ h.next ≤ b) ∧ Ext (bt :: pv.blks) h h' := by
  refine R_turn_Turn_Add _ _ (hX _ _ rfl) ?_
  refine Tells.prot fun Q' hQ => ?_
  unfold S_turn_Turn_Add
  try simp
  refine Tells.box rfl rfl fun h1 bc oc x1 l1 => ?_
  have oc : Ob h1 bc [.bool c.1, I c.2.1, I 0, I c.2.2, .nils] := oc
  have o1 := o.e x1
  have m1 := x1.next
  cases root with
  | false =>
    simp [nckR, o1.o.1, J_turn_Turn_Add_0]
    exact Tells.ok (hQ _ _ ⟨rfl, ⟨pv, by simpa using o1, fun b hb => .inl hb⟩, x1.of⟩)
  | true =>
    simp [nckR, o1.o.1, oc.1]
    refine Tells.cbE (turn_clone hX c) ?_
    rintro _ h2 ⟨rfl, x2⟩
    have m2 := x2.next
    have o2 := o1.e x2
    simp [o1.o.1, o2.o.1]
    refine Tells.app1E o2.g (by rfl) (by rfl) (show chG.rep h2 (chC c) c from rfl) (by rfl) (by rfl) (by omega) (by decide) (Nat.zero_le _) fun s3 h3 g3 x3 y3 z3 => ?_
    have o3 := o2.o.ext x3 (o2.g.1.ob o2.o)
    have q3 := o2.q.ext x3 (o2.g.1.ob o2.q)
    try simp [nckR]
    refine Tells.st1E o3 g3.1.cells g3.1.one (by simp) fun h4 o4 x4 => ?_
    simp [J_turn_Turn_Add_0, nckR, o4.1]
    refine Tells.ok (hQ _ _ ⟨rfl, ⟨s3, ⟨by simpa using o4, (o2.k.ext x3).ext x4, q3.ext x4 (by simpa using o.ne.symm), o.ne, o.l, g3.extO x4 (by simpa using .inl o3.2.1)⟩, fun b hb => ?_⟩, ?_⟩)
    · rcases z3 b hb with q | q
      · exact .inl q
      · exact .inr (by omega)
    · exact ((x1.trans x2).of.trans (x3.mono (fun b hb => by simp [hb]))).trans (x4.mono (by simp))

theorem turn_Pending (hX : OnlyKnown X) (o : TP h bt bq root kv ks qs ep st rd pv cs) : Tells (fun q => acallX Try.prog X q F_turn_Turn_Pending [.ptr bt 0] h) fun a h' => a = I cs.length ∧ h' = h := by
  refine R_turn_Turn_Pending _ (hX _ _ rfl) ?_
  unfold S_turn_Turn_Pending
  simp [nckR, o.o.1, o.g.1.len]
  exact Tells.ok ⟨rfl, rfl⟩

theorem turn_Open (hX : OnlyKnown X) (o : TP h bt bq root kv ks qs ep st rd pv cs) (he : 0 ≤ ep ∧ ep ≤ 2 ^ 20) (hl : ks.length ≤ 100) (e : Int) :
    Tells (fun q => acallX Try.prog X q F_turn_Turn_Open [.ptr bt 0, I e] h) fun a h' => Ext [bt] h h' ∧
      ((st = true ∧ e = ep + 1 ∧ a = .tup [pv, .bool true] ∧ Sl chG h' pv cs ∧ ∃ bq', h.next ≤ bq' ∧ TP h' bt bq' root kv ks (List.replicate ks.length false) e false false .nils []) ∨
       (¬ (st = true ∧ e = ep + 1) ∧ a = .tup [.nils, .bool false] ∧ h' = h)) := by
  refine R_turn_Turn_Open _ _ (hX _ _ rfl) ?_
  refine Tells.prot fun Q' hQ => ?_
  unfold S_turn_Turn_Open
  have we : IntKind.i64.wrap (ep + 1) = ep + 1 := wrap_id (by omega) (by omega)
  cases st with
  | false =>
    simp [nckR, o.o.1]
    exact Tells.ok (hQ _ _ ⟨.refl, .inr ⟨by simp, rfl, rfl⟩⟩)
  | true =>
    by_cases hee : e = ep + 1
    · subst hee
      simp [nckR, o.o.1, we, J_turn_Turn_Open_0]
      refine Tells.st1 o.o (by rfl) (by rfl) (by simp) fun h1 o1 x1 => ?_
      try simp [nckR]
      refine Tells.st1 o1 (by rfl) (by rfl) (by simp) fun h2 o2 x2 => ?_
      try simp [nckR]
      refine Tells.st1 o2 (by rfl) (by rfl) (by simp) fun h3 o3 x3 => ?_
      try simp [nckR]
      refine Tells.st1 o3 (by rfl) (by rfl) (by simp) fun h4 o4 x4 => ?_
      have o4 : Ob h4 bt [.bool root, kv, .sl bq 0 ks.length ks.length 1 true, I (ep + 1), .bool false, .bool false, .nils] := by simpa using o4
      have x04 : Ext [bt] h h4 := ((x1.trans x2).trans x3).trans x4
      have k4 := o.k.ext x04
      simp [nckR, o4.1, k4.len]
      refine Tells.mak (by rfl) (by omega) (by decide) (boolC _) fun h5 bq' l5 o5 x5 => ?_
      have o45 := o4.e x5
      have hne : bt ≠ bq' := by have := o4.lt; omega
      try simp [nckR]
      refine Tells.st1 o45 (by rfl) (by rfl) (by simp) fun h6 o6 x6 => ?_
      have xx : Ext [bt] h h6 := (x04.trans x5.of).trans x6
      have n4 := x04.next
      try simp
      exact Tells.ok (hQ _ _ ⟨xx, .inl ⟨rfl, rfl, rfl, o.g.1.ext xx, bq', by omega, ⟨by simpa using o6, o.k.ext xx, o5.ext x6 (by simpa using hne.symm), hne, by simp, Gl.nil⟩⟩⟩)
    · have hb : (e != ep + 1) = true := by simp [hee]
      simp [nckR, o.o.1, we, hb]
      exact Tells.ok (hQ _ _ ⟨.refl, .inr ⟨by simp [hee], rfl, rfl⟩⟩)
end
end Go.Proofs.Ytebkohdmoaginaa
