/-
  The abstract machine: a region whose order is open, second part: every order.
-/
import Derived.Test.YtochkdifpgelmaaABDraw
set_option linter.unusedVariables false
set_option linter.unusedSimpArgs false
namespace Go.Ab

/-- A heap of which just this is told. -/
structure HRp (n0 : Nat) (w0 : World) (ρ : Ren) (G : Nat → List AVal → Prop) (cl : Nat → Option Nat) (sp : Nat → Bool) (w : World) : Prop where
  hN : n0 ≤ w0.heap.size
  base : ∀ b cs, b < n0 → G b cs → ∃ C e fz, w.heap[b]? = some (.cells C e fz) ∧ ∀ (i : Nat) v, cs[i]? = some v → ∃ v', C[i]? = some v' ∧ VR n0 ρ v v'
  new : ∀ b cs, n0 ≤ b → G b cs → ∃ l C e fz, ρ b = some l ∧ w0.heap.size ≤ l.blk ∧ Con l w C e fz cs ∧ fine C.size fz ∧ (l.mp = false → l.tot = C.size) ∧
    ∀ (i : Nat) v, cs[i]? = some v → ∃ v', C[l.shift + i]? = some v' ∧ VR n0 ρ v v'
  inj : ∀ b c l m x y, n0 ≤ b → n0 ≤ c → G b x → G c y → ρ b = some l → ρ c = some m → l.blk = m.blk → b = c ∨ Al cl sp b c (l.shift + x.length) (m.shift + y.length)
  below : RowKit.Below w0.heap.size w0 w

section
variable {n0 nt : Nat} {w0 : World} {ρ ρ' : Ren} {h h' : Heap} {w w' : World} {G G' : Nat → List AVal → Prop}

theorem HR.p (H : HR n0 w0 ρ h w) : HRp n0 w0 ρ (fun b cs => h.get b = some cs) h.cls h.spent w := ⟨H.hN, H.base, H.new, H.inj, H.below⟩
theorem HRp.heap {cl : Nat → Option Nat} {sp : Nat → Bool} (K : HRp n0 w0 ρ G cl sp w) (hn : h.n0 = n0) (hcl : h.cls = cl) (hsp : h.spent = sp) (hs : ∀ b cs, h.get b = some cs → G b cs) : HR n0 w0 ρ h w :=
  ⟨hn, K.hN, fun b cs hb e => K.base b cs hb (hs _ _ e), fun b cs hb e => K.new b cs hb (hs _ _ e), fun b c l m x y hb hc e1 e2 => by rw [hcl, hsp]; exact K.inj b c l m x y hb hc (hs _ _ e1) (hs _ _ e2), K.below⟩
theorem HRp.bare {cl : Nat → Option Nat} {sp : Nat → Bool} (K : HRp n0 w0 ρ G cl sp w) (hn : h.n0 = n0) (hs : ∀ b, h.get b = none) : HR n0 w0 ρ h w :=
  ⟨hn, K.hN, fun b cs hb e => (by rw [hs] at e; cases e), fun b cs hb e => (by rw [hs] at e; cases e), fun b c l m x y hb hc e1 e2 => (by rw [hs] at e1; cases e1), K.below⟩

/-- A step that was taken in a part of the heap. -/
theorem HRp.step {cl cl' : Nat → Option Nat} {sp sp' : Nat → Bool} (K : HRp n0 w0 ρ G cl sp w) (hs : ∀ b cs, h.get b = some cs → G b cs) (H : HR n0 w0 ρ' h' w') (S : St n0 ρ h w ρ' h' w') {bare : Prop}
    (hbare : bare → (∀ c, h.get c = none) ∧ cl' = cl ∧ sp' = sp)
    (hA : ∀ b c x y eb ec, h'.get b = some x → h'.get c = some y → Al h'.cls h'.spent b c eb ec → b = c ∨ Al cl' sp' b c eb ec)
    (hG : ∀ b cs, G' b cs → h'.get b = some cs ∨ (G b cs ∧ h.get b = none ∧ (cl b = none ∨ bare))) : HRp n0 w0 ρ' G' cl' sp' w' := by
  have keep : ∀ b cs l, n0 ≤ b → G b cs → h.get b = none ∧ (cl b = none ∨ bare) → ρ b = some l → l.blk < w.heap.size →
      w'.heap[l.blk]? = w.heap[l.blk]? ∧ ∀ b2 x m, n0 ≤ b2 → h'.get b2 = some x → ρ' b2 = some m → m.blk ≠ l.blk := by
    intro b cs l hb hg hn hl hlt
    refine S.frame l.blk hlt fun b2 x m hb2 e em q => ?_
    rcases K.inj b2 b m l x cs hb2 hb (hs _ _ e) hg em hl q with this | ⟨r, _, z, _⟩
    · subst this
      rw [hn.1] at e; cases e
    · rcases hn.2 with k | k
      · rw [k] at z; cases z
      · rw [(hbare k).1] at e; cases e
  refine ⟨K.hN, ?_, ?_, ?_, H.below⟩
  · intro b cs hb hg
    rcases hG b cs hg with e | ⟨g, hn⟩
    · exact H.base b cs hb e
    · obtain ⟨C, e, fz, h1, h2⟩ := K.base b cs hb g
      have hlt := (Array.getElem?_eq_some_iff.1 h1).1
      have hN := K.hN
      have fr := (S.frame b hlt fun b2 x m hb2 e2 em q => by
        obtain ⟨m', _, _, _, e3, e4, _⟩ := K.new b2 x hb2 (hs _ _ e2)
        rw [em] at e3; cases e3
        omega).1
      exact ⟨C, e, fz, fr.trans h1, fun i v hi => by obtain ⟨v', p, q⟩ := h2 i v hi; exact ⟨v', p, q.mono S.le⟩⟩
  · intro b cs hb hg
    rcases hG b cs hg with e | ⟨g, hn⟩
    · exact H.new b cs hb e
    · obtain ⟨l, C, e, fz, h1, h2, h3, h4, h5, h6⟩ := K.new b cs hb g
      have hlt := h3.lt
      exact ⟨l, C, e, fz, S.le _ _ h1, h2, h3.keep (keep b cs l hb g hn h1 hlt).1, h4, h5, fun i v hi => by obtain ⟨v', p, q⟩ := h6 i v hi; exact ⟨v', p, q.mono S.le⟩⟩
  · intro b c l m x y hb hc g1 g2 e1 e2 e3
    have old : ∀ {b cs l}, n0 ≤ b → G b cs → ρ' b = some l → ρ b = some l ∧ l.blk < w.heap.size := by
      intro b cs l hb hg hl
      obtain ⟨l', C, e, fz, h1, _, h3, _⟩ := K.new b cs hb hg
      have := S.le _ _ h1
      rw [hl] at this; cases this
      exact ⟨h1, h3.lt⟩
    rcases hG b x g1 with k1 | ⟨k1, n1⟩ <;> rcases hG c y g2 with k2 | ⟨k2, n2⟩
    · rcases H.inj b c l m x y hb hc k1 k2 e1 e2 e3 with q | q
      · exact .inl q
      · exact hA b c x y _ _ k1 k2 q
    · obtain ⟨q1, q2⟩ := old hc k2 e2
      exact absurd e3 ((keep c y m hc k2 n2 q1 q2).2 b x l hb k1 e1)
    · obtain ⟨q1, q2⟩ := old hb k1 e1
      exact absurd e3.symm ((keep b x l hb k1 n1 q1 q2).2 c y m hc k2 e2)
    · rcases K.inj b c l m x y hb hc k1 k2 (old hb k1 e1).1 (old hc k2 e2).1 e3 with q | q
      · exact .inl q
      · rcases n1.2 with k | k
        · obtain ⟨r, z, _⟩ := q
          rw [k] at z; cases z
        · rw [(hbare k).2.1, (hbare k).2.2]; exact .inr q

/-! ### Masks -/

theorem mask_n0 (b : Array Nat) (i : Nat) : ∀ (al : List (Nat × Nat)) (h : Heap), (maskH b i al h).n0 = h.n0 ∧ (maskH b i al h).next = h.next
  | [], _ => ⟨rfl, rfl⟩
  | (j, id) :: r, h => by
    simp only [maskH]
    split
    · exact mask_n0 b i r h
    · exact mask_n0 b i r (h.kill id)

theorem mask_cls (b : Array Nat) (i : Nat) : ∀ (al : List (Nat × Nat)) (h : Heap), (maskH b i al h).cls = h.cls ∧ (maskH b i al h).spent = h.spent
  | [], _ => ⟨rfl, rfl⟩
  | (j, id) :: r, h => by
    simp only [maskH]
    split
    · exact mask_cls b i r h
    · exact mask_cls b i r (h.kill id)

theorem mask_get (b : Array Nat) (i : Nat) : ∀ (al : List (Nat × Nat)) (h : Heap), (∀ p ∈ al, h.n0 ≤ p.2) → ∀ c,
    ((maskH b i al h).get c = none ∨ (maskH b i al h).get c = h.get c) ∧ (∀ p ∈ al, ahead b p.1 i = false → (maskH b i al h).get p.2 = none) ∧
    ((∀ p ∈ al, ahead b p.1 i = false → p.2 ≠ c) → (maskH b i al h).get c = h.get c)
  | [], h, _, c => ⟨.inr rfl, fun p hp => absurd hp (by simp), fun _ => rfl⟩
  | (j, id) :: r, h, hal, c => by
    simp only [maskH]
    have hr : ∀ p ∈ r, h.n0 ≤ p.2 := fun p hp => hal p (List.mem_cons_of_mem _ hp)
    have hid : h.n0 ≤ id := hal (j, id) List.mem_cons_self
    by_cases ha : ahead b j i = true
    · rw [if_pos ha]
      obtain ⟨h1, h2, h3⟩ := mask_get b i r h hr c
      refine ⟨h1, fun p hp hq => ?_, fun k => h3 fun p hp => k p (List.mem_cons_of_mem _ hp)⟩
      rcases List.mem_cons.1 hp with e | e
      · subst e; rw [ha] at hq; cases hq
      · exact h2 p e hq
    · rw [if_neg ha]
      have hk : ∀ p ∈ r, (h.kill id).n0 ≤ p.2 := hr
      obtain ⟨h1, h2, h3⟩ := mask_get b i r (h.kill id) hk c
      have kg := Heap.get_kill h hid
      refine ⟨?_, fun p hp hq => ?_, fun k => ?_⟩
      · rcases h1 with h1 | h1
        · exact .inl h1
        · rw [h1, kg]
          split
          · exact .inl rfl
          · exact .inr rfl
      · rcases List.mem_cons.1 hp with e | e
        · subst e
          obtain ⟨g1, _, _⟩ := mask_get b i r (h.kill id) hk id
          rcases g1 with g1 | g1
          · exact g1
          · rw [g1, kg, if_pos rfl]
        · exact h2 p e hq
      · rw [h3 fun p hp => k p (List.mem_cons_of_mem _ hp), kg, if_neg fun q => k (j, id) List.mem_cons_self (by simpa using ha) q.symm]

theorem unmask_n0 (b : Array Nat) (i : Nat) (old : Heap) : ∀ (al : List (Nat × Nat)) (h : Heap), (unmask b i old al h).n0 = h.n0 ∧ (unmask b i old al h).next = h.next
  | [], _ => ⟨rfl, rfl⟩
  | (j, id) :: r, h => by
    simp only [unmask]
    split
    · exact unmask_n0 b i old r h
    · exact unmask_n0 b i old r (h.setB id (old.get id))

theorem unmask_cls (b : Array Nat) (i : Nat) (old : Heap) : ∀ (al : List (Nat × Nat)) (h : Heap), (unmask b i old al h).cls = h.cls ∧ (unmask b i old al h).spent = h.spent
  | [], _ => ⟨rfl, rfl⟩
  | (j, id) :: r, h => by
    simp only [unmask]
    split
    · exact unmask_cls b i old r h
    · exact unmask_cls b i old r (h.setB id (old.get id))

theorem unmask_get (b : Array Nat) (i : Nat) (old : Heap) : ∀ (al : List (Nat × Nat)) (h : Heap), (∀ p ∈ al, h.n0 ≤ p.2 ∧ p.2 < h.next ∧ h.cls p.2 = none) → ∀ c,
    ((unmask b i old al h).get c = h.get c ∨ ((unmask b i old al h).get c = old.get c ∧ ∃ p ∈ al, ahead b p.1 i = false ∧ p.2 = c)) ∧
    (∀ p ∈ al, ahead b p.1 i = false → (unmask b i old al h).get p.2 = old.get p.2)
  | [], h, _, c => ⟨.inl rfl, fun p hp => absurd hp (by simp)⟩
  | (j, id) :: r, h, hal, c => by
    simp only [unmask]
    have hr : ∀ p ∈ r, h.n0 ≤ p.2 ∧ p.2 < h.next ∧ h.cls p.2 = none := fun p hp => hal p (List.mem_cons_of_mem _ hp)
    have hid := hal (j, id) List.mem_cons_self
    by_cases ha : ahead b j i = true
    · rw [if_pos ha]
      obtain ⟨h1, h2⟩ := unmask_get b i old r h hr c
      refine ⟨?_, fun p hp hq => ?_⟩
      · rcases h1 with h1 | ⟨h1, p, hp, k⟩
        · exact .inl h1
        · exact .inr ⟨h1, p, List.mem_cons_of_mem _ hp, k⟩
      · rcases List.mem_cons.1 hp with e | e
        · subst e; rw [ha] at hq; cases hq
        · exact h2 p e hq
    · rw [if_neg ha]
      have hk : ∀ p ∈ r, (h.setB id (old.get id)).n0 ≤ p.2 ∧ p.2 < (h.setB id (old.get id)).next ∧ (h.setB id (old.get id)).cls p.2 = none := hr
      obtain ⟨h1, h2⟩ := unmask_get b i old r (h.setB id (old.get id)) hk c
      have kg := Heap.get_setB h hid.1 hid.2.1 (Heap.up_none hid.2.2) (old.get id)
      refine ⟨?_, fun p hp hq => ?_⟩
      · rcases h1 with h1 | ⟨h1, p, hp, k⟩
        · rw [h1, kg]
          split
          · rename_i e; subst e; exact .inr ⟨rfl, (j, c), List.mem_cons_self, by simpa using ha, rfl⟩
          · exact .inl rfl
        · exact .inr ⟨h1, p, List.mem_cons_of_mem _ hp, k⟩
      · rcases List.mem_cons.1 hp with e | e
        · subst e
          obtain ⟨g1, _⟩ := unmask_get b i old r (h.setB id (old.get id)) hk id
          rcases g1 with g1 | ⟨g1, _⟩
          · simp only; rw [g1, kg, if_pos rfl]
          · exact g1
        · exact h2 p e hq

end

/-! ### What holds while some are done -/

section
variable {P : Program} {call : FuncId → List AVal → Heap → Res AVal} {n0 nt : Nat} {w0 : World} {ops : Array Oper} {L : Lex}

def TX (ops : Array Oper) (L : Lex) (X : Array Bool) : Nat → T
  | 0 => L.tt 0
  | m + 1 => fun d => if X.getD m false = true ∧ (ops[m]?).bind (·.dst) = some d then L.vv m else TX ops L X m d

/-- The heap when those of X are done, and the effects ahead of m. -/
def GX (ops : Array Oper) (L : Lex) (X : Array Bool) (m : Nat) (c : Nat) (cs : List AVal) : Prop :=
  ((L.hh m).get c = some cs ∧ ∀ j, j < m → L.kk j = .alloc → (L.hh j).next = c → X.getD j false = true) ∨
  ∃ j, m ≤ j ∧ j < ops.size ∧ L.kk j = .alloc ∧ X.getD j false = true ∧ c = (L.hh j).next ∧ (L.hh (j + 1)).get c = some cs

structure All (P : Program) (call : FuncId → List AVal → Heap → Res AVal) (n0 : Nat) (w0 : World) (nt : Nat) (ops : Array Oper) (L : Lex) : Prop where
  ok : ∀ i, i < ops.size → LOk P call nt ops (Region.before ops) L i
  call : CallOk P n0 w0 call
  slots : slotsOk ops = true
  aa : L.aa 0 = []

structure AllN (P : Program) (call : FuncId → List AVal → Heap → Res AVal) (n0 : Nat) (w0 : World) (nt : Nat) (ops : Array Oper) (L : Lex) : Prop extends All P call n0 w0 nt ops L where
  n0 : (L.hh 0).n0 = n0

theorem All.gr (A : All P call n0 w0 nt ops L) {i : Nat} (hi : i < ops.size) : Gr (L.hh i) (L.hh (i + 1)) := by
  obtain ⟨o, ho, _, h⟩ := A.ok i hi
  cases hk : L.kk i <;> rw [hk] at h <;> simp only at h
  · rw [h.2.2.1]; exact Gr.refl _
  · rw [h.2.2.2.1]; exact Gr.refl _
  · rw [h.2.2.2.1]; exact Gr.refl _
  · exact next_op h.2.2.1
  · obtain ⟨_, ⟨h2, e1, e2⟩, _⟩ := h
    have := step_next A.call (t := L.tt i) (h := maskH (Region.before ops) i (L.aa i) (L.hh i)) (o := o) (by rw [e1]; simp)
    rw [e1] at this
    obtain ⟨m1, m2⟩ := mask_n0 (Region.before ops) i (L.aa i) (L.hh i)
    obtain ⟨u1, u2⟩ := unmask_n0 (Region.before ops) i (L.hh i) (L.aa i) h2
    rw [e2]
    refine ⟨?_, ?_, fun c hc => ?_⟩
    · rw [u2, ← m2]; exact this.1
    · rw [u1, ← m1]; exact this.2
    · rw [(unmask_cls _ _ _ _ _).1]
      refine (this.3 c (by rw [m2]; exact hc)).trans ?_
      rw [(mask_cls _ _ _ _).1]

theorem All.grs (A : All P call n0 w0 nt ops L) {i : Nat} : ∀ {j : Nat}, i ≤ j → j ≤ ops.size → Gr (L.hh i) (L.hh j)
  | 0, h, _ => by have : i = 0 := by omega
                  subst this; exact Gr.refl _
  | j + 1, h, hj => by
    by_cases e : i = j + 1
    · subst e; exact Gr.refl _
    · exact (A.grs (by omega) (by omega)).trans (A.gr (by omega))

theorem AllN.hn (A : AllN P call n0 w0 nt ops L) {i : Nat} (hi : i ≤ ops.size) : (L.hh i).n0 = n0 := ((A.grs (Nat.zero_le i) hi).2).trans A.n0

theorem All.mem (A : All P call n0 w0 nt ops L) : ∀ {i : Nat}, i ≤ ops.size → ∀ j id, (j, id) ∈ L.aa i ↔ j < i ∧ L.kk j = .alloc ∧ id = (L.hh j).next
  | 0, _, j, id => by rw [A.aa]; simp
  | i + 1, hi, j, id => by
    obtain ⟨o, ho, _, h⟩ := A.ok i (by omega)
    have ih := A.mem (i := i) (by omega) j id
    have same : L.kk i ≠ .alloc → L.aa (i + 1) = L.aa i → ((j, id) ∈ L.aa (i + 1) ↔ j < i + 1 ∧ L.kk j = .alloc ∧ id = (L.hh j).next) := fun hne e => by
      rw [e, ih]
      constructor
      · rintro ⟨a, b⟩; exact ⟨by omega, b⟩
      · rintro ⟨a, b, c⟩
        by_cases q : j = i
        · subst q; exact absurd b hne
        · exact ⟨by omega, b, c⟩
    cases hk : L.kk i <;> rw [hk] at h <;> simp only at h
    · exact same (by rw [hk]; simp) h.2.2.2
    · exact same (by rw [hk]; simp) h.2.2.2.2
    · exact same (by rw [hk]; simp) h.2.2.2.2.1
    · rw [h.2.2.2, List.mem_cons, ih]
      constructor
      · rintro (e | ⟨a, b⟩)
        · cases e; exact ⟨by omega, hk, rfl⟩
        · exact ⟨by omega, b⟩
      · rintro ⟨a, b, c⟩
        by_cases q : j = i
        · subst q; subst c; exact .inl rfl
        · exact .inr ⟨by omega, b, c⟩
    · exact same (by rw [hk]; simp) h.2.2.1

theorem All.alloc (A : All P call n0 w0 nt ops L) {i : Nat} (hi : i < ops.size) (hk : L.kk i = .alloc) : ∃ mm cs, L.hh (i + 1) = (L.hh i).new mm cs := by
  obtain ⟨o, ho, _, h⟩ := A.ok i hi
  rw [hk] at h
  obtain ⟨mm, cs, e, _⟩ := alloc_heap h.2.1 h.2.2.1
  exact ⟨mm, cs, e⟩

theorem All.lt (A : All P call n0 w0 nt ops L) {i j : Nat} (hk : L.kk i = .alloc) (h : i < j) (hj : j ≤ ops.size) : (L.hh i).next < (L.hh j).next := by
  obtain ⟨mm, cs, e⟩ := A.alloc (by omega) hk
  have h1 := (A.grs (i := i + 1) (j := j) (by omega) hj).1
  have h2 : (L.hh (i + 1)).next = (L.hh i).next + 1 := by rw [e]; simp [Heap.new, Heap.next]; omega
  omega

theorem All.uniq (A : All P call n0 w0 nt ops L) {i j : Nat} (hi : i < ops.size) (hj : j < ops.size) (ki : L.kk i = .alloc) (kj : L.kk j = .alloc) (e : (L.hh i).next = (L.hh j).next) : i = j := by
  rcases Nat.lt_trichotomy i j with h | h | h
  · have := A.lt ki h (by omega); omega
  · exact h
  · have := A.lt kj h (by omega); omega

theorem AllN.ids (A : AllN P call n0 w0 nt ops L) {q : Nat} (hq : q ≤ ops.size) : ∀ p ∈ L.aa q, (L.hh q).n0 ≤ p.2 ∧ p.2 < (L.hh q).next := by
  rintro ⟨j, id⟩ hp
  obtain ⟨h1, h2, rfl⟩ := (A.mem hq j id).1 hp
  refine ⟨?_, A.lt h2 h1 hq⟩
  rw [A.hn hq, ← A.hn (i := j) (by omega)]
  simp only [Heap.next]; omega

/-- What an allocation made is of no class. -/
theorem All.nocls (A : All P call n0 w0 nt ops L) {j q : Nat} (hj : j < ops.size) (hk : L.kk j = .alloc) (hq : q ≤ ops.size) : (L.hh q).cls (L.hh j).next = none := by
  rcases Nat.lt_or_ge j q with k | k
  · obtain ⟨mm, cs, e⟩ := A.alloc hj hk
    have h1 : (L.hh (j + 1)).cls (L.hh j).next = none := by rw [e, Heap.cls_new]; exact Heap.cls_ge (Nat.le_refl _)
    have h2 := (A.grs (i := j + 1) (j := q) (by omega) hq).3 (L.hh j).next (by rw [e, next_new']; omega)
    exact h2.trans h1
  · exact Heap.cls_ge (A.grs k (by omega)).1

/-- From m on no effect, up to q: the classes are the same. -/
theorem All.quietC (A : All P call n0 w0 nt ops L) {m : Nat} : ∀ {q : Nat}, m ≤ q → q ≤ ops.size → (∀ k, m ≤ k → k < q → L.kk k ≠ .eff) → (L.hh q).cls = (L.hh m).cls ∧ (L.hh q).spent = (L.hh m).spent
  | 0, h, _, _ => by have : m = 0 := by omega
                     subst this; exact ⟨rfl, rfl⟩
  | q + 1, h, hq, hne => by
    by_cases hm : m = q + 1
    · subst hm; exact ⟨rfl, rfl⟩
    · have ih := A.quietC (m := m) (q := q) (by omega) (by omega) (fun k a b => hne k a (by omega))
      obtain ⟨o, ho, _, hl⟩ := A.ok q (by omega)
      cases hk : L.kk q <;> rw [hk] at hl <;> simp only at hl
      · rw [hl.2.2.1]; exact ih
      · rw [hl.2.2.2.1]; exact ih
      · rw [hl.2.2.2.1]; exact ih
      · obtain ⟨mm, ds, ed⟩ := A.alloc (i := q) (by omega) hk
        rw [ed]
        exact ⟨(funext fun c => Heap.cls_new _ _ _ c).trans ih.1, (funext fun c => Heap.spent_new _ _ _ c).trans ih.2⟩
      · exact absurd hk (hne q (by omega) (by omega))

/-- .. and what was there still is. -/
theorem All.stay (A : All P call n0 w0 nt ops L) {m : Nat} : ∀ {q : Nat}, m ≤ q → q ≤ ops.size → (∀ k, m ≤ k → k < q → L.kk k ≠ .eff) → ∀ c cs, (L.hh m).get c = some cs → (L.hh q).get c = some cs
  | 0, h, _, _, c, cs, e => by have : m = 0 := by omega
                               subst this; exact e
  | q + 1, h, hq, hne, c, cs, e => by
    by_cases hm : m = q + 1
    · subst hm; exact e
    · have ih := A.stay (m := m) (q := q) (by omega) (by omega) (fun k a b => hne k a (by omega)) c cs e
      obtain ⟨o, ho, _, hl⟩ := A.ok q (by omega)
      cases hk : L.kk q <;> rw [hk] at hl <;> simp only at hl
      · rw [hl.2.2.1]; exact ih
      · rw [hl.2.2.2.1]; exact ih
      · rw [hl.2.2.2.1]; exact ih
      · obtain ⟨mm, ds, ed⟩ := A.alloc (i := q) (by omega) hk
        rw [ed, Heap.get_new, if_neg]
        · exact ih
        · rintro rfl; rw [Heap.get_ge (Nat.le_refl _)] at ih; cases ih
      · exact absurd hk (hne q (by omega) (by omega))

/-- From m on no effect, up to q. -/
theorem All.quiet (A : All P call n0 w0 nt ops L) {m : Nat} : ∀ {q : Nat}, m ≤ q → q ≤ ops.size → (∀ k, m ≤ k → k < q → L.kk k ≠ .eff) → ∀ c cs, (L.hh q).get c = some cs →
    (L.hh m).get c = some cs ∨ ∃ j, m ≤ j ∧ j < q ∧ L.kk j = .alloc ∧ c = (L.hh j).next ∧ (L.hh (j + 1)).get c = some cs
  | 0, h, _, _, c, cs, e => by have : m = 0 := by omega
                               subst this; exact .inl e
  | q + 1, h, hq, hne, c, cs, e => by
    by_cases hm : m = q + 1
    · subst hm; exact .inl e
    · have ih := A.quiet (m := m) (q := q) (by omega) (by omega) (fun k a b => hne k a (by omega)) c cs
      have lift : (L.hh q).get c = some cs → (L.hh m).get c = some cs ∨ ∃ j, m ≤ j ∧ j < q + 1 ∧ L.kk j = .alloc ∧ c = (L.hh j).next ∧ (L.hh (j + 1)).get c = some cs := fun e => by
        rcases ih e with k | ⟨j, a, b, k⟩
        · exact .inl k
        · exact .inr ⟨j, a, by omega, k⟩
      obtain ⟨o, ho, _, hl⟩ := A.ok q (by omega)
      cases hk : L.kk q <;> rw [hk] at hl <;> simp only at hl
      · rw [hl.2.2.1] at e; exact lift e
      · rw [hl.2.2.2.1] at e; exact lift e
      · rw [hl.2.2.2.1] at e; exact lift e
      · obtain ⟨mm, ds, ed⟩ := A.alloc (i := q) (by omega) hk
        by_cases hc : c = (L.hh q).next
        · exact .inr ⟨q, by omega, by omega, hk, hc, e⟩
        · rw [ed, Heap.get_new, if_neg hc] at e
          exact lift e
      · exact absurd hk (hne q (by omega) (by omega))

/-- What is masked for operation i lies in the heap of those that are done. -/
theorem AllN.sub (A : AllN P call n0 w0 nt ops L) {X : Array Bool} {m q i : Nat} (hmq : m ≤ q) (hq : q ≤ ops.size) (hne : ∀ k, m ≤ k → k < q → L.kk k ≠ .eff)
    (hah : ∀ j, ahead (Region.before ops) j i = true → X.getD j false = true) (c : Nat) (cs : List AVal) (e : (maskH (Region.before ops) i (L.aa q) (L.hh q)).get c = some cs) : GX ops L X m c cs := by
  have ids := fun p hp => (A.ids hq p hp).1
  obtain ⟨h1, _, _⟩ := mask_get (Region.before ops) i (L.aa q) (L.hh q) ids c
  have keep : ∀ j, j < q → L.kk j = .alloc → (L.hh j).next = c → X.getD j false = true := fun j hj hk hc => by
    cases ha : ahead (Region.before ops) j i with
    | true => exact hah j ha
    | false =>
      obtain ⟨_, h2, _⟩ := mask_get (Region.before ops) i (L.aa q) (L.hh q) ids c
      have := h2 (j, (L.hh j).next) ((A.mem hq j _).2 ⟨hj, hk, rfl⟩) ha
      simp only at this
      rw [hc, e] at this; cases this
  rcases h1 with h1 | h1
  · rw [h1] at e; cases e
  · rw [h1] at e
    rcases A.quiet hmq hq hne c cs e with k | ⟨j, a, b, k1, k2, k3⟩
    · exact .inl ⟨k, fun j hj => keep j (by omega)⟩
    · exact .inr ⟨j, a, by omega, k1, keep j b k1 k2.symm, k2, k3⟩

/-- What is done, and masked, was allocated here. -/
theorem AllN.masked (A : AllN P call n0 w0 nt ops L) {X : Array Bool} {m q i : Nat} (hmq : m ≤ q) (hq : q ≤ ops.size) (hne : ∀ k, m ≤ k → k < q → L.kk k ≠ .eff)
    {c : Nat} {cs : List AVal} (g : GX ops L X m c cs) (e : (maskH (Region.before ops) i (L.aa q) (L.hh q)).get c = none) : (L.hh m).cls c = none := by
  rcases g with ⟨g1, _⟩ | ⟨j, g1, g2, g3, _, g5, _⟩
  · have h1 := A.stay hmq hq hne c cs g1
    cases hc : (L.hh m).cls c with
    | none => rfl
    | some r =>
      exfalso
      obtain ⟨_, _, h3⟩ := mask_get (Region.before ops) i (L.aa q) (L.hh q) (fun p hp => (A.ids hq p hp).1) c
      rw [h3 fun p hp _ hpc => ?_, h1] at e
      · cases e
      · obtain ⟨j1, j2, j3⟩ := (A.mem hq p.1 p.2).1 hp
        have := A.nocls (j := p.1) (q := m) (by omega) j2 (by omega)
        rw [← j3, hpc, hc] at this
        cases this
  · rw [g5]; exact A.nocls g2 g3 (by omega)

theorem AllN.fn (A : AllN P call n0 w0 nt ops L) {X : Array Bool} {m : Nat} (hm : m ≤ ops.size) {c : Nat} {x y : List AVal} (hx : GX ops L X m c x) (hy : GX ops L X m c y) : x = y := by
  have hlt : ∀ {j}, m ≤ j → j < ops.size → (L.hh m).get (L.hh j).next = none := fun {j} a b => Heap.get_ge (A.grs a (by omega)).1
  rcases hx with ⟨a, _⟩ | ⟨j, a1, a2, a3, _, a5, a6⟩ <;> rcases hy with ⟨b, _⟩ | ⟨k, b1, b2, b3, _, b5, b6⟩
  · rw [a] at b; cases b; rfl
  · rw [b5, hlt b1 b2] at a; cases a
  · rw [a5, hlt a1 a2] at b; cases b
  · have : j = k := A.uniq a2 b2 a3 b3 (a5.symm.trans b5)
    subst this
    rw [a6] at b6; cases b6; rfl

end
end Go.Ab
