/-
  The abstract machine: a region whose order is open, last part.
-/
import Derived.Test.YtochkdifpgelmaaABDraw2
import Derived.StillTail
set_option linter.unusedVariables false
set_option linter.unusedSimpArgs false
namespace Go.Ab

section
variable {P : Program} {call : FuncId → List AVal → Heap → Res AVal} {n0 nt : Nat} {w0 : World} {ops : Array Oper} {L : Lex}

/-! ### Frames while some are done -/

theorem TX_full {X : Array Bool} (A : AllN P call n0 w0 nt ops L) (hX : ∀ i, i < ops.size → X.getD i false = true) : ∀ {m : Nat}, m ≤ ops.size → TX ops L X m = L.tt m
  | 0, _ => rfl
  | m + 1, hm => by
    obtain ⟨o, ho, hp, _⟩ := A.ok m (by omega)
    have ih := TX_full A hX (m := m) (by omega)
    funext d
    simp only [TX, ho, Option.bind_some]
    cases hd : o.dst with
    | none =>
      rw [hd] at hp
      simp only [putT, Option.some.injEq] at hp
      rw [if_neg (by simp), ih, hp]
    | some e =>
      rw [hd] at hp
      simp only [putT] at hp
      split at hp
      · rw [← Option.some.inj hp]
        by_cases q : d = e
        · subst q
          rw [if_pos ⟨hX m (by omega), rfl⟩]
          exact (if_pos rfl).symm
        · rw [if_neg (by rintro ⟨_, k⟩; cases k; exact q rfl), ih]
          exact (if_neg q).symm
      · cases hp

theorem tt_step (A : AllN P call n0 w0 nt ops L) {m : Nat} (hm : m < ops.size) (d : Nat) : L.tt (m + 1) d = if (ops[m]?).bind (·.dst) = some d then L.vv m else L.tt m d := by
  obtain ⟨o, ho, hp, _⟩ := A.ok m hm
  simp only [ho, Option.bind_some]
  cases hd : o.dst with
  | none =>
    rw [hd] at hp
    simp only [putT, Option.some.injEq] at hp
    rw [if_neg (by simp), hp]
  | some e =>
    rw [hd] at hp
    simp only [putT] at hp
    split at hp
    · rw [← Option.some.inj hp]
      by_cases q : d = e
      · subst q; rw [if_pos rfl]; exact if_pos rfl
      · rw [if_neg (by rintro k; cases k; exact q rfl)]; exact if_neg q
    · cases hp

theorem TX_at {X : Array Bool} (A : AllN P call n0 w0 nt ops L) (hc : Clo ops X) {i : Nat} {o : Oper} (ho : ops[i]? = some o) (hr : i ∈ Region.ready .any ops X) {d : Tmp} (hd : d ∈ slotsOf ops o) :
    ∀ {m : Nat}, m ≤ ops.size → TX ops L X m d = L.tt (min m i) d
  | 0, _ => by simp [TX]
  | m + 1, hm => by
    have ih := TX_at A hc ho hr hd (m := m) (by omega)
    have hni : X.getD i false = false := by
      have := (mem_ready.1 hr).1
      exact getD_both this
    simp only [TX]
    by_cases hw : (ops[m]?).bind (·.dst) = some d
    · obtain ⟨q, hq, hqd⟩ : ∃ q, ops[m]? = some q ∧ q.dst = some d := by
        cases hq : ops[m]? with
        | none => rw [hq] at hw; cases hw
        | some q => rw [hq] at hw; exact ⟨q, rfl, hw⟩
      by_cases hmi : m = i
      · subst hmi
        rw [if_neg (by rintro ⟨k, _⟩; rw [hni] at k; cases k), ih]
        simp
      · obtain ⟨s1, s2⟩ := slots_spec A.slots ho hq hqd hd (fun e => hmi e.symm)
        by_cases hlt : m < i
        · have hXm := ready_ahead hc hr (s1 hlt)
          rw [if_pos ⟨hXm, hw⟩, show min (m + 1) i = m + 1 by omega, tt_step A (by omega), if_pos hw]
        · have hXm : X.getD m false = false := by
            cases hx : X.getD m false with
            | false => rfl
            | true => have := hc m i hx (s2 hlt); rw [hni] at this; cases this
          rw [if_neg (by rintro ⟨k, _⟩; rw [hXm] at k; cases k), ih]
          congr 1; omega
    · rw [if_neg (by rintro ⟨_, k⟩; exact hw k), ih]
      by_cases hlt : m < i
      · rw [show min (m + 1) i = m + 1 by omega, show min m i = m by omega, tt_step A (by omega), if_neg hw]
      · congr 1; omega

theorem TX_put {X : Array Bool} (A : AllN P call n0 w0 nt ops L) (hc : Clo ops X) {i : Nat} {o : Oper} (ho : ops[i]? = some o) (hi : i < X.size) (hr : i ∈ Region.ready .any ops X) (d : Tmp) :
    ∀ {m : Nat}, m ≤ ops.size → TX ops L (X.setIfInBounds i true) m d = if i < m ∧ o.dst = some d then L.vv i else TX ops L X m d
  | 0, _ => by simp [TX]
  | m + 1, hm => by
    have ih := TX_put A hc ho hi hr d (m := m) (by omega)
    have hni : X.getD i false = false := getD_both (mem_ready.1 hr).1
    simp only [TX]
    rw [getD_set hi]
    by_cases hmi : i = m
    · subst hmi
      rw [if_pos rfl, ho, Option.bind_some]
      by_cases hd : o.dst = some d
      · rw [if_pos ⟨rfl, hd⟩, if_pos ⟨by omega, hd⟩]
      · rw [if_neg (by rintro ⟨_, k⟩; exact hd k), if_neg (by rintro ⟨_, k⟩; exact hd k), ih, if_neg (by omega), if_neg (by rintro ⟨_, k⟩; exact hd k)]
    · rw [if_neg hmi]
      by_cases hw : X.getD m false = true ∧ (ops[m]?).bind (·.dst) = some d
      · rw [if_pos hw, if_pos hw]
        by_cases hd : i < m + 1 ∧ o.dst = some d
        · exfalso
          obtain ⟨q, hq, hqd⟩ : ∃ q, ops[m]? = some q ∧ q.dst = some d := by
            cases hq : ops[m]? with
            | none => rw [hq] at hw; cases hw.2
            | some q => rw [hq] at hw; exact ⟨q, rfl, hw.2⟩
          have hsl : d ∈ slotsOf ops o := by simp [slotsOf, hd.2]
          obtain ⟨_, s2⟩ := slots_spec A.slots ho hq hqd hsl hmi
          have := hc m i hw.1 (s2 (by omega))
          rw [hni] at this; cases this
        · rw [if_neg hd]
      · rw [if_neg hw, if_neg hw, ih]
        by_cases hd : i < m ∧ o.dst = some d
        · rw [if_pos hd, if_pos ⟨by omega, hd.2⟩]
        · rw [if_neg hd]
          by_cases hd2 : i < m + 1 ∧ o.dst = some d
          · exact absurd ⟨by omega, hd2.2⟩ hd
          · rw [if_neg hd2]

/-! ### The state -/

structure Inv (n0 nt : Nat) (w0 : World) (ops : Array Oper) (L : Lex) (df : List Deferred) (ρs : Ren) (ws : World) (X : Array Bool) (m : Nat) (ρ : Ren) (a : Act) (w : World) : Prop where
  size : X.size = ops.size
  clo : Clo ops X
  mle : m ≤ ops.size
  m2 : m = 0 ∨ ∃ k, m = k + 1 ∧ L.kk k = .eff
  eff : ∀ k, k < ops.size → L.kk k = .eff → (X.getD k false = true ↔ k < m)
  tm : RT n0 ρ nt (TX ops L X ops.size) a.tmps
  dfs : a.defers = df
  hp : HRp n0 w0 ρ (GX ops L X m) (L.hh m).cls (L.hh m).spent w
  le : ρs.le ρ
  dom : ∀ c, ρ c ≠ none → ρs c ≠ none ∨ ∃ i, i < ops.size ∧ X.getD i false = true ∧ (L.hh i).next ≤ c ∧ c < (L.hh (i + 1)).next
  wsize : ws.heap.size ≤ w.heap.size
  frame : ∀ c, c < ws.heap.size → (∀ b x l, n0 ≤ b → (L.hh 0).get b = some x → ρs b = some l → l.blk ≠ c) →
    w.heap[c]? = ws.heap[c]? ∧ ∀ b x l, n0 ≤ b → GX ops L X m b x → ρ b = some l → l.blk ≠ c

section
variable {df : List Deferred} {ρs ρ ρ' : Ren} {ws w w' : World} {X : Array Bool} {m m' : Nat} {a : Act}

theorem Inv.step (A : AllN P call n0 w0 nt ops L) (I : Inv n0 nt w0 ops L df ρs ws X m ρ a w) {i : Nat} {o : Oper} (ho : ops[i]? = some o) (hr : i ∈ Region.ready .any ops X)
    {hc h' : Heap} {v' : Value} (hs : ∀ b cs, hc.get b = some cs → GX ops L X m b cs) (hv : VR n0 ρ' (L.vv i) v') (H : HR n0 w0 ρ' h' w') (S : St n0 ρ hc w ρ' h' w')
    {bare : Prop} (hbare : bare → (∀ c, hc.get c = none) ∧ (L.hh m').cls = (L.hh m).cls ∧ (L.hh m').spent = (L.hh m).spent)
    (hA : ∀ b c x y eb ec, h'.get b = some x → h'.get c = some y → Al h'.cls h'.spent b c eb ec → b = c ∨ Al (L.hh m').cls (L.hh m').spent b c eb ec)
    (hG : ∀ b cs, GX ops L (X.setIfInBounds i true) m' b cs → h'.get b = some cs ∨ (GX ops L X m b cs ∧ hc.get b = none ∧ ((L.hh m).cls b = none ∨ bare)))
    (hint : ∀ c, hc.next ≤ c → c < h'.next → (L.hh i).next ≤ c ∧ c < (L.hh (i + 1)).next)
    (hm : m' ≤ ops.size) (hm2 : m' = 0 ∨ ∃ k, m' = k + 1 ∧ L.kk k = .eff) (heff : ∀ k, k < ops.size → L.kk k = .eff → ((X.setIfInBounds i true).getD k false = true ↔ k < m')) :
    Inv n0 nt w0 ops L df ρs ws (X.setIfInBounds i true) m' ρ' (a.put o.dst v') w' := by
  have hio : i < ops.size := (Array.getElem?_eq_some_iff.1 ho).1
  have hi : i < X.size := by rw [I.size]; exact hio
  obtain ⟨o', ho', hp, _⟩ := A.ok i hio
  rw [ho] at ho'; cases ho'
  refine ⟨by rw [Array.size_setIfInBounds]; exact I.size, I.clo.set hi hr, hm, hm2, heff, ?_, by rw [put_defers]; exact I.dfs, I.hp.step hs H S hbare hA hG, Ren.le_trans I.le S.le, ?_, Nat.le_trans I.wsize S.size, ?_⟩
  · have k := I.tm.mono S.le
    refine ⟨?_, fun d => ?_⟩
    · cases hd : o.dst <;> simp [Act.put, k.size]
    · rw [TX_put A I.clo ho hi hr d (Nat.le_refl _)]
      cases hd : o.dst with
      | none => rw [if_neg (by simp)]; exact k.at_ d
      | some e =>
        rw [hd] at hp
        simp only [putT] at hp
        split at hp
        · rename_i hlt
          simp only [Act.put]
          by_cases q : e = d
          · subst q
            rw [if_pos ⟨hio, rfl⟩]
            have : e < a.tmps.size := by rw [k.size]; exact hlt
            simpa [this] using hv
          · rw [if_neg (by rintro ⟨_, z⟩; cases z; exact q rfl)]
            have hg : (a.tmps.setIfInBounds e v').getD d undef = a.tmps.getD d undef := by
              simp only [Array.getD_eq_getD_getElem?]
              rw [Array.getElem?_setIfInBounds_ne q]
            rw [hg]; exact k.at_ d
        · cases hp
  · intro c hcn
    rcases S.dom c hcn with q | q
    · rcases I.dom c q with q | ⟨j, h1, h2, h3⟩
      · exact .inl q
      · refine .inr ⟨j, h1, ?_, h3⟩
        rw [getD_set hi]; split
        · rfl
        · exact h2
    · exact .inr ⟨i, hio, by rw [getD_set hi, if_pos rfl], hint c q.1 q.2⟩
  · intro c hcl hno
    obtain ⟨f1, f2⟩ := I.frame c hcl hno
    obtain ⟨g1, g2⟩ := S.frame c (Nat.lt_of_lt_of_le hcl I.wsize) fun b x l hb e el => f2 b x l hb (hs _ _ e) el
    refine ⟨g1.trans f1, fun b x l hb hg el => ?_⟩
    rcases hG b x hg with e | ⟨e, _⟩
    · exact g2 b x l hb e el
    · obtain ⟨l', _, _, _, q, _⟩ := I.hp.new b x hb e
      have := S.le _ _ q
      rw [el] at this; cases this
      exact f2 b x l hb e q

/-- A heap that tells nothing. -/
def bare (n0 nx : Nat) : Heap := ⟨n0, fun _ => none, .nil, nx - n0, .nil, .nil, .nil, .nil⟩
theorem bare_cls (n0 nx c : Nat) : (bare n0 nx).cls c = none := by
  unfold Heap.cls bare
  simp only [Tr.get]
  split <;> rfl
theorem bare_get (n0 nx c : Nat) : (bare n0 nx).get c = none := by
  unfold Heap.get bare
  simp only [Tr.get]
  split
  · rfl
  · split
    · split <;> rfl
    · rfl
theorem bare_next {n0 nx : Nat} (h : n0 ≤ nx) : (bare n0 nx).next = nx := by simp only [Heap.next, bare]; omega

theorem GX_other {i : Nat} (hk : L.kk i ≠ .alloc) (hi : i < X.size) {b : Nat} {cs : List AVal} (h : GX ops L (X.setIfInBounds i true) m b cs) : GX ops L X m b cs := by
  rcases h with ⟨h1, h2⟩ | ⟨j, h1, h2, h3, h4, h5⟩
  · refine .inl ⟨h1, fun j a b c => ?_⟩
    have := h2 j a b c
    rw [getD_set hi] at this
    split at this
    · rename_i q; subst q; exact absurd b hk
    · exact this
  · refine .inr ⟨j, h1, h2, h3, ?_, h5⟩
    rw [getD_set hi] at h4
    split at h4
    · rename_i q; subst q; exact absurd h3 hk
    · exact h4

theorem eff_other {i : Nat} (hk : L.kk i ≠ .eff) (hi : i < X.size) (h : ∀ k, k < ops.size → L.kk k = .eff → (X.getD k false = true ↔ k < m)) :
    ∀ k, k < ops.size → L.kk k = .eff → ((X.setIfInBounds i true).getD k false = true ↔ k < m) := fun k a b => by
  rw [getD_set hi, if_neg (by rintro rfl; exact hk b)]
  exact h k a b

theorem slots_wanted {t t' : T} {o : Oper} (h : ∀ d, d ∈ slotsOf ops o → t d = t' d) : aWanted ops t o = aWanted ops t' o := by
  unfold aWanted
  split
  · rfl
  · rename_i j want hg
    split
    · rename_i g hgg
      split
      · rename_i d hd
        rw [h d (by simp [slotsOf, hg, hgg, hd])]
      · rfl
    · rfl

theorem slots_eval {t t' : T} {o : Oper} (h : ∀ d, d ∈ slotsOf ops o → t d = t' d) : ∀ x ∈ o.op.operands, aEval t x = aEval t' x := by
  intro x hx
  cases x with
  | tmp i =>
    refine h i ?_
    simp only [slotsOf, List.mem_append, List.mem_filterMap]
    exact .inl (.inr ⟨.tmp i, by simpa using hx, rfl⟩)
  | _ => rfl

theorem Inv.fresh (A : AllN P call n0 w0 nt ops L) (I : Inv n0 nt w0 ops L df ρs ws X m ρ a w) (hf : Fr ρs (L.hh 0).next (L.hh ops.size).next) {i : Nat} (hi : i < ops.size) (hni : X.getD i false = false) : Fr ρ (L.hh i).next (L.hh (i + 1)).next := by
  intro c h1 h2
  cases hc : ρ c with
  | none => rfl
  | some l =>
    exfalso
    have g0 := (A.grs (Nat.zero_le i) (by omega)).1
    have gn := (A.grs (i := i + 1) (j := ops.size) (by omega) (Nat.le_refl _)).1
    rcases I.dom c (by rw [hc]; simp) with q | ⟨j, j1, j2, j3, j4⟩
    · exact q (hf c (by omega) (by omega))
    · rcases Nat.lt_trichotomy i j with k | k | k
      · have := (A.grs (i := i + 1) (j := j) (by omega) (by omega)).1; omega
      · subst k; rw [hni] at j2; cases j2
      · have := (A.grs (i := j + 1) (j := i) (by omega) (by omega)).1; omega

theorem first_eff : ∀ (d m i : Nat), m + d = i → (∀ k, m ≤ k → k < i → L.kk k ≠ .eff) ∨ ∃ k, m ≤ k ∧ k < i ∧ L.kk k = .eff ∧ ∀ j, m ≤ j → j < k → L.kk j ≠ .eff
  | 0, m, i, h => .inl fun k a b => by omega
  | d + 1, m, i, h => by
    cases hk : L.kk m with
    | eff => exact .inr ⟨m, by omega, by omega, hk, fun j a b => by omega⟩
    | _ =>
      rcases first_eff d (m + 1) i (by omega) with q | ⟨k, a, b, c, e⟩
      · refine .inl fun k a b => ?_
        by_cases z : k = m
        · subst z; rw [hk]; simp
        · exact q k (by omega) b
      · refine .inr ⟨k, by omega, b, c, fun j a2 b2 => ?_⟩
        by_cases z : j = m
        · subst z; rw [hk]; simp
        · exact e j (by omega) b2

theorem Inv.op (hA : AllN P call n0 w0 nt ops L) (I : Inv n0 nt w0 ops L df ρs ws X m ρ a w) (hf : Fr ρs (L.hh 0).next (L.hh ops.size).next) {i : Nat} (hr : i ∈ Region.ready .any ops X) {Q : Exit → Act → World → Prop} :
    wpOp P ops Q i (fun a' w' => ∃ m' ρ', Inv n0 nt w0 ops L df ρs ws (X.setIfInBounds i true) m' ρ' a' w') a w := by
  obtain ⟨hun, o, ho, _⟩ := mem_ready.1 hr
  have hio : i < ops.size := (Array.getElem?_eq_some_iff.1 ho).1
  have hi : i < X.size := by rw [I.size]; exact hio
  have hni : X.getD i false = false := getD_both hun
  obtain ⟨o', ho', hp, hk⟩ := hA.ok i hio
  rw [ho] at ho'; cases ho'
  have hsl : ∀ d, d ∈ slotsOf ops o → TX ops L X ops.size d = L.tt i d := fun d hd => by
    rw [TX_at hA I.clo ho hr hd (Nat.le_refl _), Nat.min_eq_right (by omega)]
  have hw : aWanted ops (TX ops L X ops.size) o = aWanted ops (L.tt i) o := slots_wanted hsl
  have hev := slots_eval hsl
  have hah : ∀ j, ahead (Region.before ops) j i = true → X.getD j false = true := fun j hj => by
    simp only [ahead, Bool.and_eq_true, decide_eq_true_eq] at hj
    exact ready_ahead I.clo hr hj.2
  have hn0 := hA.hn (i := i) (by omega)
  have hge : n0 ≤ (L.hh i).next := by rw [← hn0]; simp only [Heap.next]; omega
  have hempty : HR n0 w0 ρ (bare n0 (L.hh i).next) w := I.hp.bare rfl fun b => bare_get _ _ _
  have hes : ∀ b cs, (bare n0 (L.hh i).next).get b = some cs → GX ops L X m b cs := fun b cs e => by rw [bare_get] at e; cases e
  unfold wpOp
  simp only [ho]
  cases hkk : L.kk i with
  | off =>
    rw [hkk] at hk
    obtain ⟨k1, k2, k3, k4⟩ := hk
    rw [← hw] at k1
    rw [wanted_ok I.tm k1, if_neg Bool.false_ne_true]
    exact ⟨m, ρ, I.step hA ho hr (h' := bare n0 (L.hh i).next) hes (by rw [k2]; exact VR.undef) hempty St.refl (bare := True) (fun _ => ⟨fun c => bare_get _ _ _, rfl, rfl⟩) (fun b c x y eb ec e => by rw [bare_get] at e; cases e) (fun b cs g => .inr ⟨GX_other (by rw [hkk]; simp) hi g, bare_get _ _ _, .inr trivial⟩) (fun c p q => by omega) I.mle I.m2 (eff_other (by rw [hkk]; simp) hi I.eff)⟩
  | pure =>
    rw [hkk] at hk
    obtain ⟨k1, k2, k3, k4, k5⟩ := hk
    rw [← hw] at k1
    rw [wanted_ok I.tm k1, if_pos rfl]
    left
    have hop := aOp_ok (P := P) I.tm.eval hempty o
    rw [aOp_congr o _ hev, pure_heap k2 k3] at hop
    obtain ⟨ρ', w', x, r1, r2, r3, r4⟩ := hop fun q => absurd q (Nat.lt_irrefl _)
    unfold Oper.wp
    rw [r1]
    have fin : ∀ v', VR n0 ρ' (L.vv i) v' → ∃ m' ρ', Inv n0 nt w0 ops L df ρs ws (X.setIfInBounds i true) m' ρ' (a.put o.dst v') w' := fun v' hv =>
      ⟨m, ρ', I.step hA ho hr hes hv r3 r4 (bare := True) (fun _ => ⟨fun c => bare_get _ _ _, rfl, rfl⟩) (fun b c x y eb ec e => by rw [bare_get] at e; cases e) (fun b cs g => .inr ⟨GX_other (by rw [hkk]; simp) hi g, bare_get _ _ _, .inr trivial⟩) (fun c p q => by omega) I.mle I.m2 (eff_other (by rw [hkk]; simp) hi I.eff)⟩
    rcases r2 with ⟨v', rfl, hv⟩ | ⟨rfl, hv⟩
    · exact fin v' hv
    · exact fin undef (by rw [hv]; exact VR.undef)
  | read =>
    rw [hkk] at hk
    obtain ⟨k1, k2, k3, k4, k5, k6⟩ := hk
    rw [← hw] at k1
    rw [wanted_ok I.tm k1, if_pos rfl]
    left
    -- the heap in which it is looked at
    have hheap : ∃ q, m ≤ q ∧ q ≤ ops.size ∧ (∀ k, m ≤ k → k < q → L.kk k ≠ .eff) ∧ arVal (aOp P (aEval (L.tt i)) (maskH (Region.before ops) i (L.aa q) (L.hh q)) o) = some (L.vv i) := by
      by_cases hmi : m ≤ i
      · rcases first_eff (L := L) (i - m) m i (by omega) with q | ⟨k, a1, a2, a3, a4⟩
        · exact ⟨i, hmi, by omega, q, k3⟩
        · refine ⟨k, a1, by omega, a4, ?_⟩
          rcases k6 k a2 a3 with z | z
          · have := (I.eff k (by omega) a3).1 (hah k z); omega
          · exact again_eq z
      · rcases I.m2 with z | ⟨k, z1, z2⟩
        · omega
        · have hki : i < k := by
            by_cases q : k = i
            · subst q; rw [hkk] at z2; cases z2
            · omega
          obtain ⟨q, hq, _, hkq⟩ := hA.ok k (by have := I.mle; omega)
          rw [z2] at hkq
          obtain ⟨_, _, e1, _, e2⟩ := hkq
          refine ⟨m, Nat.le_refl _, I.mle, fun j a b => by omega, ?_⟩
          rcases e2 i o hki hkk ho with z | z
          · simp only [ahead, Bool.and_eq_true, decide_eq_true_eq] at z
            have := I.clo k i ((I.eff k (by have := I.mle; omega) z2).2 (by omega)) z.2
            rw [hni] at this; cases this
          · rw [z1, e1]; exact again_eq z
    obtain ⟨q, q1, q2, q3, q4⟩ := hheap
    obtain ⟨mn1, mn2⟩ := mask_n0 (Region.before ops) i (L.aa q) (L.hh q)
    have hsub := fun c cs => hA.sub (X := X) q1 q2 q3 hah c cs
    obtain ⟨qc1, qc2⟩ := hA.quietC q1 q2 q3
    obtain ⟨mc1, mc2⟩ := mask_cls (Region.before ops) i (L.aa q) (L.hh q)
    have Hc : HR n0 w0 ρ (maskH (Region.before ops) i (L.aa q) (L.hh q)) w := I.hp.heap (mn1.trans (hA.hn q2)) (mc1.trans qc1) (mc2.trans qc2) hsub
    have hop := aOp_ok (P := P) I.tm.eval Hc o
    rw [aOp_congr o _ hev, read_heap k2 q4] at hop
    obtain ⟨ρ', w', x, r1, r2, r3, r4⟩ := hop fun q => absurd q (Nat.lt_irrefl _)
    unfold Oper.wp
    rw [r1]
    have fin : ∀ v', VR n0 ρ' (L.vv i) v' → ∃ m' ρ', Inv n0 nt w0 ops L df ρs ws (X.setIfInBounds i true) m' ρ' (a.put o.dst v') w' := fun v' hv =>
      ⟨m, ρ', I.step hA ho hr hsub hv r3 r4 (bare := False) (fun q => q.elim) (fun b c x y eb ec _ _ z => by rw [mc1, mc2, qc1, qc2] at z; exact .inr z) (fun b cs g => by
        have g' := GX_other (by rw [hkk]; simp) hi g
        cases hg : (maskH (Region.before ops) i (L.aa q) (L.hh q)).get b with
        | none => exact .inr ⟨g', rfl, .inl (hA.masked q1 q2 q3 g' hg)⟩
        | some y => rw [hA.fn I.mle g' (hsub b y hg)]; exact .inl rfl) (fun c p q => by omega) I.mle I.m2 (eff_other (by rw [hkk]; simp) hi I.eff)⟩
    rcases r2 with ⟨v', rfl, hv⟩ | ⟨rfl, hv⟩
    · exact fin v' hv
    · exact fin undef (by rw [hv]; exact VR.undef)
  | alloc =>
    rw [hkk] at hk
    obtain ⟨k1, k2, k3, k4⟩ := hk
    rw [← hw] at k1
    rw [wanted_ok I.tm k1, if_pos rfl]
    left
    obtain ⟨mm, cs0, e1, e2⟩ := alloc_heap k2 k3
    have hbn : (bare n0 (L.hh i).next).next = (L.hh i).next := bare_next hge
    have hop := aOp_ok (P := P) I.tm.eval hempty o
    rw [aOp_congr o _ hev, e2 _ hbn] at hop
    have hfr := I.fresh hA hf hio hni
    obtain ⟨ρ', w', x, r1, r2, r3, r4⟩ := hop fun _ => by
      rw [hbn]
      refine hfr _ (Nat.le_refl _) ?_
      rw [e1]; simp [Heap.new, Heap.next]
    unfold Oper.wp
    rw [r1]
    have hnx : (L.hh (i + 1)).next = (L.hh i).next + 1 := by rw [e1]; simp [Heap.new, Heap.next]; omega
    have hbx : ((bare n0 (L.hh i).next).new mm cs0).next = (L.hh i).next + 1 := by
      have : ((bare n0 (L.hh i).next).new mm cs0).next = (bare n0 (L.hh i).next).next + 1 := by simp [Heap.new, Heap.next]; omega
      rw [this, hbn]
    have hself : (L.hh (i + 1)).get (L.hh i).next = some cs0 := by rw [e1, Heap.get_new, if_pos rfl]
    -- its block stays as it was made
    have stays : ∀ q, i + 1 ≤ q → q ≤ m → (L.hh q).get (L.hh i).next = some cs0 := by
      intro q h1
      induction q with
      | zero => omega
      | succ q ih =>
        intro h2
        by_cases hq : q = i
        · subst hq; exact hself
        · have ih' := ih (by omega) (by omega)
          have hqm : q < ops.size := by have := I.mle; omega
          obtain ⟨oq, hoq, _, hl⟩ := hA.ok q hqm
          cases hkq : L.kk q with
          | off => rw [hkq] at hl; rw [hl.2.2.1]; exact ih'
          | pure => rw [hkq] at hl; rw [hl.2.2.2.1]; exact ih'
          | read => rw [hkq] at hl; rw [hl.2.2.2.1]; exact ih'
          | alloc =>
            obtain ⟨mm2, ds, ed⟩ := hA.alloc hqm hkq
            rw [ed, Heap.get_new, if_neg (by have := hA.lt hkk (j := q) (by omega) (by omega); omega)]
            exact ih'
          | eff =>
            rw [hkq] at hl
            obtain ⟨_, ⟨h2', e3, e4⟩, _⟩ := hl
            have hXq := (I.eff q hqm hkq).2 (by omega)
            have hna : ahead (Region.before ops) i q = false := by
              cases z : ahead (Region.before ops) i q with
              | false => rfl
              | true =>
                simp only [ahead, Bool.and_eq_true, decide_eq_true_eq] at z
                have := I.clo q i hXq z.2
                rw [hni] at this; cases this
            have hmem := (hA.mem (i := q) (by omega) i (L.hh i).next).2 ⟨by omega, hkk, rfl⟩
            have hgr := step_next hA.call (t := L.tt q) (h := maskH (Region.before ops) q (L.aa q) (L.hh q)) (o := oq) (by rw [e3]; simp)
            rw [e3] at hgr
            obtain ⟨mm1, mm2⟩ := mask_n0 (Region.before ops) q (L.aa q) (L.hh q)
            have hids : ∀ p ∈ L.aa q, h2'.n0 ≤ p.2 ∧ p.2 < h2'.next ∧ h2'.cls p.2 = none := fun p hp => by
              have z := hA.ids (q := q) (by omega) p hp
              have z1 : h2'.n0 = (L.hh q).n0 := hgr.2.trans mm1
              have z2 : (L.hh q).next ≤ h2'.next := by rw [← mm2]; exact hgr.1
              obtain ⟨j1, j2, j3⟩ := (hA.mem (i := q) (by omega) p.1 p.2).1 hp
              refine ⟨by rw [z1]; exact z.1, by omega, (hgr.3 p.2 (by rw [mm2]; exact z.2)).trans ?_⟩
              rw [(mask_cls _ _ _ _).1, j3]
              exact hA.nocls (by omega) j2 (by omega)
            rw [e4, (unmask_get (Region.before ops) q (L.hh q) (L.aa q) h2' hids 0).2 _ hmem hna]
            exact ih'
    have hG : ∀ b cs, GX ops L (X.setIfInBounds i true) m b cs → ((bare n0 (L.hh i).next).new mm cs0).get b = some cs ∨ (GX ops L X m b cs ∧ (bare n0 (L.hh i).next).get b = none ∧ ((L.hh m).cls b = none ∨ True)) := by
      intro b cs g
      by_cases hb : b = (L.hh i).next
      · left
        rw [Heap.get_new, if_pos (by rw [hbn]; exact hb)]
        subst hb
        rcases g with ⟨g1, _⟩ | ⟨j, g1, g2, g3, g4, g5, g6⟩
        · by_cases hmi : i + 1 ≤ m
          · rw [stays m hmi (Nat.le_refl _)] at g1; exact g1
          · rw [Heap.get_ge (hA.grs (i := m) (j := i) (by omega) (by omega)).1] at g1; cases g1
        · have : i = j := hA.uniq hio g2 hkk g3 g5
          subst this
          rw [hself] at g6; exact g6
      · right
        refine ⟨?_, bare_get _ _ _, .inr trivial⟩
        rcases g with ⟨g1, g2⟩ | ⟨j, g1, g2, g3, g4, g5, g6⟩
        · refine .inl ⟨g1, fun j a1 a2 a3 => ?_⟩
          have := g2 j a1 a2 a3
          rw [getD_set hi, if_neg (by rintro rfl; exact hb a3.symm)] at this
          exact this
        · refine .inr ⟨j, g1, g2, g3, ?_, g5, g6⟩
          rw [getD_set hi, if_neg (by rintro rfl; exact hb g5)] at g4
          exact g4
    have fin : ∀ v', VR n0 ρ' (L.vv i) v' → ∃ m' ρ', Inv n0 nt w0 ops L df ρs ws (X.setIfInBounds i true) m' ρ' (a.put o.dst v') w' := fun v' hv =>
      ⟨m, ρ', I.step hA ho hr hes hv r3 r4 (bare := True) (fun _ => ⟨fun c => bare_get _ _ _, rfl, rfl⟩) (fun b c x y eb ec e1 e2 _ => by
        rw [Heap.get_new, bare_get] at e1 e2
        split at e1
        · split at e2
          · rename_i z1 z2; exact .inl (z1.trans z2.symm)
          · cases e2
        · cases e1) hG (fun c p q => by rw [hbn] at p; rw [hbx] at q; omega) I.mle I.m2 (eff_other (by rw [hkk]; simp) hi I.eff)⟩
    rcases r2 with ⟨v', rfl, hv⟩ | ⟨rfl, hv⟩
    · exact fin v' hv
    · exact fin undef (by rw [hv]; exact VR.undef)
  | eff =>
    rw [hkk] at hk
    obtain ⟨k1, ⟨h2, k2, k3⟩, k4, k5, k6⟩ := hk
    rw [← hw] at k1
    rw [wanted_ok I.tm k1, if_pos rfl]
    left
    have hmi : m ≤ i := by
      rcases Nat.lt_or_ge i m with q | q
      · have := (I.eff i hio hkk).2 q; rw [hni] at this; cases this
      · exact q
    have hq3 : ∀ k, m ≤ k → k < i → L.kk k ≠ .eff := fun k a b c => by
      have := (I.eff k (by omega) c).1 (hah k (k5 k b c)); omega
    obtain ⟨mn1, mn2⟩ := mask_n0 (Region.before ops) i (L.aa i) (L.hh i)
    have hsub := fun c cs => hA.sub (X := X) (q := i) hmi (by omega) hq3 hah c cs
    obtain ⟨qc1, qc2⟩ := hA.quietC hmi (by omega) hq3
    obtain ⟨mc1, mc2⟩ := mask_cls (Region.before ops) i (L.aa i) (L.hh i)
    have Hc : HR n0 w0 ρ (maskH (Region.before ops) i (L.aa i) (L.hh i)) w := I.hp.heap (mn1.trans hn0) (mc1.trans qc1) (mc2.trans qc2) hsub
    have hcong : aStep P call (TX ops L X ops.size) (maskH (Region.before ops) i (L.aa i) (L.hh i)) o = .ok (L.vv i) h2 := by
      unfold aStep
      rw [aOp_congr o _ hev]
      exact k2
    have hgr := step_next hA.call (t := L.tt i) (h := maskH (Region.before ops) i (L.aa i) (L.hh i)) (o := o) (by rw [k2]; simp)
    rw [k2] at hgr
    obtain ⟨un1, un2⟩ := unmask_n0 (Region.before ops) i (L.hh i) (L.aa i) h2
    have hnx : (L.hh (i + 1)).next = h2.next := by rw [k3, un2]
    have hids : ∀ p ∈ L.aa i, h2.n0 ≤ p.2 ∧ p.2 < h2.next ∧ h2.cls p.2 = none := fun p hp => by
      have z := hA.ids (q := i) (by omega) p hp
      have z1 : h2.n0 = (L.hh i).n0 := hgr.2.trans mn1
      have z2 : (L.hh i).next ≤ h2.next := by rw [← mn2]; exact hgr.1
      obtain ⟨j1, j2, j3⟩ := (hA.mem (i := i) (by omega) p.1 p.2).1 hp
      refine ⟨by rw [z1]; exact z.1, by omega, (hgr.3 p.2 (by rw [mn2]; exact z.2)).trans ?_⟩
      rw [mc1, j3]
      exact hA.nocls (by omega) j2 (by omega)
    obtain ⟨uc1, uc2⟩ := unmask_cls (Region.before ops) i (L.hh i) (L.aa i) h2
    refine step_ok hA.call I.tm Hc (by rw [hcong]; simp) ?_ ?_ ?_
    · rw [hcong, mn2]
      have := I.fresh hA hf hio hni
      rw [hnx] at this
      exact this
    · intro v h3 e ρ' v' w' hv H' S
      rw [hcong] at e; cases e
      refine ⟨i + 1, ρ', I.step hA ho hr hsub hv H' S (bare := False) (fun q => q.elim) (fun b c x y eb ec _ _ z => by rw [k3, uc1, uc2]; exact .inr z) ?_ (fun c p q => by rw [mn2] at p; rw [hnx]; exact ⟨p, q⟩) (by omega) (.inr ⟨i, rfl, hkk⟩) ?_⟩
      · intro b cs g
        rcases g with ⟨g1, g2⟩ | ⟨j, g1, g2, g3, g4, g5, g6⟩
        · rw [k3] at g1
          rcases (unmask_get (Region.before ops) i (L.hh i) (L.aa i) h2 hids b).1 with z | ⟨z, ⟨j, id⟩, hp, ha, hb⟩
          · left; rw [← z]; exact g1
          · right
            simp only at ha hb
            subst hb
            obtain ⟨j1, j2, j3⟩ := (hA.mem (i := i) (by omega) j id).1 hp
            rw [z] at g1
            have hXj : X.getD j false = true := by
              have := g2 j (by omega) j2 j3.symm
              rw [getD_set hi, if_neg (by omega)] at this
              exact this
            refine ⟨?_, (mask_get (Region.before ops) i (L.aa i) (L.hh i) (fun p hp => (hA.ids (q := i) (by omega) p hp).1) 0).2.1 (j, id) hp ha, .inl (by rw [j3]; exact hA.nocls (by omega) j2 (by omega))⟩
            rcases hA.quiet hmi (by omega) hq3 id cs g1 with y | ⟨j', y1, y2, y3, y4, y5⟩
            · refine .inl ⟨y, fun j' a1 a2 a3 => ?_⟩
              have : j' = j := hA.uniq (by omega) (by omega) a2 j2 (a3.trans j3)
              subst this; exact hXj
            · have : j' = j := hA.uniq (by omega) (by omega) y3 j2 (y4.symm.trans j3)
              subst this
              exact .inr ⟨j', y1, by omega, y3, hXj, y4, y5⟩
        · right
          rw [getD_set hi, if_neg (by omega)] at g4
          refine ⟨.inr ⟨j, by omega, g2, g3, g4, g5, g6⟩, Heap.get_ge ?_, .inl (by rw [g5]; exact hA.nocls g2 g3 (by omega))⟩
          rw [mn2, g5]
          exact (hA.grs (i := i) (j := j) (by omega) (by omega)).1
      · intro k hk hke
        rw [getD_set hi]
        by_cases q : i = k
        · subst q; rw [if_pos rfl]; simp
        · rw [if_neg q]
          rcases Nat.lt_or_ge k i with z | z
          · have := hah k (k5 k z hke)
            rw [this]; simp; omega
          · have hXk : X.getD k false = false := by
              cases y : X.getD k false with
              | false => rfl
              | true =>
                obtain ⟨ok, hok, _, hl⟩ := hA.ok k hk
                rw [hke] at hl
                have := hl.2.2.2.1 i (by omega) hkk
                simp only [ahead, Bool.and_eq_true, decide_eq_true_eq] at this
                have := I.clo k i y this.2
                rw [hni] at this; cases this
            rw [hXk]; simp; omega
    · intro v h3 e
      rw [hcong] at e; cases e

end

/-! ### Every order -/

def cnt (X : Array Bool) : Nat → Nat
  | 0 => 0
  | m + 1 => cnt X m + if X.getD m false = true then 0 else 1

theorem cnt_set {X : Array Bool} {i : Nat} (hi : i < X.size) (hn : X.getD i false = false) : ∀ m, cnt X m = cnt (X.setIfInBounds i true) m + if i < m then 1 else 0
  | 0 => by simp [cnt]
  | m + 1 => by
    have ih := cnt_set hi hn m
    simp only [cnt]
    rw [getD_set hi]
    by_cases h : i = m
    · subst h
      rw [if_neg (by omega : ¬ i < i)] at ih
      rw [hn, if_pos rfl, if_pos (by omega : i < i + 1), if_neg Bool.false_ne_true, if_pos rfl]
      omega
    · rw [if_neg h]
      by_cases h2 : i < m
      · rw [if_pos h2] at ih
        rw [if_pos (by omega : i < m + 1)]; omega
      · rw [if_neg h2] at ih
        rw [if_neg (by omega : ¬ i < m + 1)]; omega

theorem cnt_zero {X : Array Bool} : ∀ {m}, cnt X m = 0 → ∀ i, i < m → X.getD i false = true
  | 0, _, i, hi => by omega
  | m + 1, h, i, hi => by
    simp only [cnt] at h
    by_cases q : i = m
    · subst q
      cases z : X.getD i false with
      | true => rfl
      | false => rw [z] at h; simp at h
    · exact cnt_zero (m := m) (by omega) i (by omega)

theorem all_of_ready (A : AllN P call n0 w0 nt ops L) {X : Array Bool} (hX : X.size = ops.size) (hr : Region.ready .any ops X = []) : ∀ i, i < ops.size → X.getD i false = true := by
  intro i
  induction i using Nat.strongRecOn with
  | _ i ih =>
    intro hi
    cases z : X.getD i false with
    | true => rfl
    | false =>
      exfalso
      have hmem : i ∈ Region.ready .any ops X := by
        obtain ⟨o, ho⟩ : ∃ o, ops[i]? = some o := ⟨ops[i], Array.getElem?_eq_getElem hi⟩
        refine mem_ready.2 ⟨getD_in (by omega) z, o, ho, fun e he hb => ?_⟩
        have := edges_spec A.slots ho he hb
        exact ih e.on this (by omega)
      rw [hr] at hmem; cases hmem

theorem any_of_inv {df : List Deferred} {ρs : Ren} {ws : World} (A : AllN P call n0 w0 nt ops L) (hf : Fr ρs (L.hh 0).next (L.hh ops.size).next) {Q : Exit → Act → World → Prop}
    (hQ : ∀ X m ρ a w, Inv n0 nt w0 ops L df ρs ws X m ρ a w → (∀ i, i < ops.size → X.getD i false = true) → Q .normal a w) :
    ∀ (fuel : Nat) (X : Array Bool) (m : Nat) (ρ : Ren) (a : Act) (w : World), Inv n0 nt w0 ops L df ρs ws X m ρ a w → cnt X ops.size ≤ fuel → wpAny P .any ops Q fuel X a w
  | 0, X, m, ρ, a, w, I, hc => by
    have full := cnt_zero (X := X) (m := ops.size) (by omega)
    refine ⟨?_, hQ X m ρ a w I full⟩
    cases hr : Region.ready .any ops X with
    | nil => rfl
    | cons i r =>
      exfalso
      obtain ⟨h1, o, ho, _⟩ := mem_ready.1 (hr ▸ List.mem_cons_self : i ∈ Region.ready .any ops X)
      have := full i (Array.getElem?_eq_some_iff.1 ho).1
      rw [getD_both h1] at this; cases this
  | fuel + 1, X, m, ρ, a, w, I, hc => by
    refine ⟨fun hr => hQ X m ρ a w I (all_of_ready A I.size hr), fun i hi => ?_⟩
    obtain ⟨h1, o, ho, _⟩ := mem_ready.1 hi
    have hio := (Array.getElem?_eq_some_iff.1 ho).1
    refine wpOp_mono (fun a' w' k => ?_) (I.op A hf hi)
    obtain ⟨m', ρ', I'⟩ := k
    refine any_of_inv A hf hQ fuel _ m' ρ' a' w' I' ?_
    have := cnt_set (X := X) (i := i) (by rw [I.size]; exact hio) (getD_both h1) ops.size
    rw [if_pos hio] at this
    omega

end

section
variable {n0 nt : Nat} {w0 : World} {ρ : Ren} {h : Heap} {w : World} {P : Program} {t : T}

theorem draw_lex {call : FuncId → List AVal → Heap → Res AVal} {ops : Array Oper} {tf : T} {hf : Heap} (e : drawOps P call nt ops (Region.before ops) ops.toList 0 ⟨[], [], []⟩ t h = .ok tf hf) :
    ∃ L : Lex, L.tt 0 = t ∧ L.hh 0 = h ∧ L.aa 0 = [] ∧ L.tt ops.size = tf ∧ L.hh ops.size = hf ∧ ∀ i, i < ops.size → LOk P call nt ops (Region.before ops) L i := by
  obtain ⟨M, m1, m2, m3, m4, m5, m6⟩ := lex_of (P := P) (call := call) (nt := nt) (ops := ops) (b := Region.before ops) ops.toList 0 ⟨[], [], []⟩ ⟨fun _ => t, fun _ => h, fun _ => .opq, fun _ => .off, fun _ => []⟩
    (fun j => by simp) ⟨rfl, fun k hk => by omega, fun k q hk => by omega⟩ (fun j hj => by omega) e
  simp only [Array.length_toList, Nat.zero_add] at m4 m5 m6
  exact ⟨M, m1, m2, m3, m4, m5, m6⟩

theorem draw_shape {call : FuncId → List AVal → Heap → Res AVal} {all : Array Oper} {b : Array Nat} : ∀ (l : List Oper) (i : Nat) (D : Dr) (t : T) (h : Heap) (v : AVal) (h' : Heap), drawOps P call nt all b l i D t h ≠ .pan v h'
  | [], _, _, _, _, _, _ => by simp [drawOps]
  | o :: r, i, D, t, h, v, h' => by
    simp only [drawOps]
    (repeat' split) <;> first | exact draw_shape r _ _ _ _ v h' | simp

theorem draw_keeps {call : FuncId → List AVal → Heap → Res AVal} {all : Array Oper} {b : Array Nat} {j : Nat} : ∀ (l : List Oper) (i : Nat) (D : Dr) (t : T) (h : Heap) (t' : T) (h' : Heap), drawOps P call nt all b l i D t h = .ok t' h' → (∀ o ∈ l, o.dst ≠ some j) → t' j = t j
  | [], _, _, _, _, _, _, e, _ => by simp only [drawOps, Res.ok.injEq] at e; rw [e.1]
  | o :: r, i, D, t, h, t', h', e, hl => by
    have h1 := hl o (by simp)
    have h2 : ∀ o ∈ r, o.dst ≠ some j := fun o ho => hl o (by simp [ho])
    simp only [drawOps] at e
    (repeat' split at e) <;> first
      | (cases e; done)
      | (rename_i et; rw [draw_keeps r _ _ _ _ _ _ e h2, putT_keeps et h1])
      | (rename_i et _; rw [draw_keeps r _ _ _ _ _ _ e h2, putT_keeps et h1])

theorem draw_next {call : FuncId → List AVal → Heap → Res AVal} (hc : CallOk P n0 w0 call) {ops : Array Oper} (hs : slotsOk ops = true) (hne : drawOps P call nt ops (Region.before ops) ops.toList 0 ⟨[], [], []⟩ t h ≠ .fail) :
    GrR h (drawOps P call nt ops (Region.before ops) ops.toList 0 ⟨[], [], []⟩ t h) := by
  cases e : drawOps P call nt ops (Region.before ops) ops.toList 0 ⟨[], [], []⟩ t h with
  | fail => exact absurd e hne
  | pan v h' => exact absurd e (draw_shape _ _ _ _ _ _ _)
  | ok tf hf =>
    obtain ⟨L, l1, l2, l3, l4, l5, l6⟩ := draw_lex e
    have A : All P call n0 w0 nt ops L := ⟨l6, hc, hs, l3⟩
    have := A.grs (Nat.zero_le ops.size) (Nat.le_refl _)
    rw [l2, l5] at this
    exact this

theorem drawOps_ok {call : FuncId → List AVal → Heap → Res AVal} (hc : CallOk P n0 w0 call) {ops : Array Oper} (hs : slotsOk ops = true) {a : Act}
    (hne : drawOps P call nt ops (Region.before ops) ops.toList 0 ⟨[], [], []⟩ t h ≠ .fail)
    (hT : RT n0 ρ nt t a.tmps) (H : HR n0 w0 ρ h w) (hf : Fr ρ h.next (drawOps P call nt ops (Region.before ops) ops.toList 0 ⟨[], [], []⟩ t h).nxt) (g : T) :
    wpAny P .any ops (RPost n0 w0 nt ρ h w a.defers g (drawOps P call nt ops (Region.before ops) ops.toList 0 ⟨[], [], []⟩ t h)) ops.size (Array.replicate ops.size false) a w := by
  cases e : drawOps P call nt ops (Region.before ops) ops.toList 0 ⟨[], [], []⟩ t h with
  | fail => exact absurd e hne
  | pan v h' => exact absurd e (draw_shape _ _ _ _ _ _ _)
  | ok tf h2 =>
    obtain ⟨L, l1, l2, l3, l4, l5, l6⟩ := draw_lex e
    have A : AllN P call n0 w0 nt ops L := ⟨⟨l6, hc, hs, l3⟩, by rw [l2]; exact H.hn⟩
    rw [e] at hf
    have hf' : Fr ρ (L.hh 0).next (L.hh ops.size).next := by rw [l2, l5]; exact hf
    have hfalse : ∀ j, (Array.replicate ops.size false).getD j false = false := fun j => getD_replicate_false _ _
    have tx0 : ∀ m, TX ops L (Array.replicate ops.size false) m = L.tt 0 := by
      intro m
      induction m with
      | zero => rfl
      | succ m ih => funext d; simp only [TX]; rw [if_neg (by rintro ⟨k, _⟩; rw [hfalse] at k; cases k), ih]
    have g0 : ∀ b cs, GX ops L (Array.replicate ops.size false) 0 b cs → h.get b = some cs := by
      rintro b cs (⟨k, _⟩ | ⟨j, _, _, _, k, _⟩)
      · rw [l2] at k; exact k
      · rw [hfalse] at k; cases k
    have I0 : Inv n0 nt w0 ops L a.defers ρ w (Array.replicate ops.size false) 0 ρ a w := by
      refine ⟨by simp, fun i j k => (by rw [hfalse] at k; cases k), Nat.zero_le _, .inl rfl, fun k _ _ => ?_, ?_, rfl, ?_, ρ.le_refl, fun c k => .inl k, Nat.le_refl _, fun c _ k => ⟨rfl, fun b x l hb g el => ?_⟩⟩
      · rw [hfalse]; simp
      · rw [tx0, l1]; exact hT
      · exact ⟨H.hN, fun b cs hb g => H.base b cs hb (g0 b cs g), fun b cs hb g => H.new b cs hb (g0 b cs g), fun b c l m x y hb hc g1 g2 => by rw [l2]; exact H.inj b c l m x y hb hc (g0 _ _ g1) (g0 _ _ g2), H.below⟩
      · exact k b x l hb (by rw [l2]; exact g0 b x g) el
    refine any_of_inv A hf' ?_ ops.size _ 0 ρ a w I0 ?_
    · intro X m ρ' a' w' I full
      have hgo : ∀ b cs, h2.get b = some cs → GX ops L X m b cs := by
        intro b cs hb
        rw [← l5] at hb
        rcases A.quiet I.mle (Nat.le_refl _) (fun k k1 k2 k3 => by have := (I.eff k k2 k3).1 (full k k2); omega) b cs hb with k | ⟨j, j1, j2, j3, j4, j5⟩
        · exact .inl ⟨k, fun j hj _ _ => full j (by have := I.mle; omega)⟩
        · exact .inr ⟨j, j1, j2, j3, full j j2, j4, j5⟩
      have hn : h2.n0 = n0 := by rw [← l5]; exact A.hn (Nat.le_refl _)
      have gr := A.grs (Nat.zero_le ops.size) (Nat.le_refl _)
      rw [l2, l5] at gr
      have qc := A.quietC I.mle (Nat.le_refl _) (fun k k1 k2 k3 => by have := (I.eff k k2 k3).1 (full k k2); omega)
      refine ⟨rfl, I.dfs, ρ', ?_, I.hp.heap hn (by rw [← l5]; exact qc.1) (by rw [← l5]; exact qc.2) hgo, I.le, fun c k => ?_, gr.1, I.wsize, fun c hcl k => ?_⟩
      · have := I.tm
        rw [TX_full A full (Nat.le_refl _), l4] at this
        exact this
      · rcases I.dom c k with q | ⟨i, i1, i2, i3, i4⟩
        · exact .inl q
        · have g1 := (A.grs (Nat.zero_le i) (by omega)).1
          have g2 := (A.grs (i := i + 1) (j := ops.size) (by omega) (Nat.le_refl _)).1
          rw [l2] at g1; rw [l5] at g2
          exact .inr ⟨by omega, by omega⟩
      · obtain ⟨f1, f2⟩ := I.frame c hcl (fun b x l hb e1 e2 => k b x l hb (by rw [l2] at e1; exact e1) e2)
        exact ⟨f1, fun b x l hb e1 e2 => f2 b x l hb (hgo b x e1) e2⟩
    · have : ∀ m, cnt (Array.replicate ops.size false) m ≤ m := by
        intro m
        induction m with
        | zero => simp [cnt]
        | succ m ih => simp only [cnt]; split <;> omega
      exact this _

end
end Go.Ab
