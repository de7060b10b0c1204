/-
  The abstract machine: a region whose order is open: whatever order is drawn, it comes to what the text's order tells.
-/
import Derived.Test.YtochkdifpgelmaaABDrawA
set_option linter.unusedVariables false
set_option linter.unusedSimpArgs false
namespace Go.Ab

theorem progSlots_at {P : Program} (hs : progSlots P = true) {f : FuncId} {fn : Func} (hf : P.funcs[f]? = some fn) {c : Code} (hb : fn.body = some c) : codeSlots c = true := by
  unfold progSlots at hs
  have := List.all_eq_true.1 hs fn (by
    rw [← Array.getElem?_toList] at hf
    exact List.mem_of_getElem? hf)
  rw [hb] at this
  exact this

theorem slots_spec {ops : Array Oper} (hs : slotsOk ops = true) {i j : Nat} {o q : Oper} (ho : ops[i]? = some o) (hq : ops[j]? = some q) {d : Tmp} (hd : q.dst = some d) (hm : d ∈ slotsOf ops o) (hne : i ≠ j) :
    (j < i → ((Region.before ops).getD i 0).testBit j = true) ∧ (¬ j < i → ((Region.before ops).getD j 0).testBit i = true) := by
  unfold slotsOk at hs
  have mem : ∀ {k : Nat} {x : Oper}, ops[k]? = some x → (x, k) ∈ ops.toList.zipIdx := fun {k x} hk => by
    rw [List.mem_zipIdx_iff_getElem?]
    simpa using hk
  have h1 := List.all_eq_true.1 hs (o, i) (mem ho)
  simp only [Bool.and_eq_true] at h1
  have h2 := List.all_eq_true.1 h1.2 (q, j) (mem hq)
  simp only [hd, Bool.or_eq_true, Bool.not_eq_true', List.contains_eq_mem, decide_eq_false_iff_not, beq_iff_eq] at h2
  rcases h2 with (h2 | h2) | h2
  · exact absurd hm h2
  · exact absurd h2 hne
  · refine ⟨fun k => ?_, fun k => ?_⟩
    · rw [if_pos k] at h2; exact h2
    · rw [if_neg k] at h2; exact h2

theorem edges_spec {ops : Array Oper} (hs : slotsOk ops = true) {i : Nat} {o : Oper} (ho : ops[i]? = some o) {e : Edge} (he : e ∈ o.after) (hb : Region.binds .any e = true) : e.on < i := by
  unfold slotsOk at hs
  have h1 := List.all_eq_true.1 hs (o, i) (by rw [List.mem_zipIdx_iff_getElem?]; simpa using ho)
  simp only [Bool.and_eq_true] at h1
  have h2 := Array.all_eq_true'.1 h1.1 e he
  simpa [hb] using h2

mutual
theorem aEq_eq : ∀ {a b : AVal}, aEq a b = true → a = b
  | .bool a, .bool b, h => by simp [aEq] at h; rw [h]
  | .int _ _, .int _ _, h => by simp [aEq] at h; rw [h.1, h.2]
  | .flt _ _, .flt _ _, h => by simp [aEq] at h; rw [h.1, h.2]
  | .str a, .str b, h => by
    simp only [aEq, decide_eq_true_eq] at h
    have : a.data = b.data := Array.ext' h
    cases a; cases b; simp at this; rw [this]
  | .nilp, .nilp, _ => rfl
  | .ptr _ _, .ptr _ _, h => by simp [aEq] at h; rw [h.1, h.2]
  | .nils, .nils, _ => rfl
  | .sl .., .sl .., h => by simp [aEq, and_assoc] at h; obtain ⟨rfl, rfl, rfl, rfl, rfl, rfl⟩ := h; rfl
  | .fn _ _ _, .fn _ _ _, h => by
    simp only [aEq, Bool.and_eq_true, decide_eq_true_eq] at h
    obtain ⟨⟨rfl, h2⟩, h3⟩ := h
    rw [aEqs_eq h2, aEqs_eq h3]
  | .nilf, .nilf, _ => rfl
  | .iface _ _, .iface _ _, h => by
    simp only [aEq, Bool.and_eq_true, decide_eq_true_eq] at h
    obtain ⟨rfl, h2⟩ := h
    rw [aEq_eq h2]
  | .nili, .nili, _ => rfl
  | .agg _, .agg _, h => by simp only [aEq] at h; rw [aEqs_eq h]
  | .tup _, .tup _, h => by simp only [aEq] at h; rw [aEqs_eq h]
  | .mp _, .mp _, h => by simp [aEq] at h; rw [h]
  | .opq, .opq, _ => rfl
theorem aEqs_eq : ∀ {a b : List AVal}, aEqs a b = true → a = b
  | [], [], _ => rfl
  | _ :: _, _ :: _, h => by
    simp only [aEqs, Bool.and_eq_true] at h
    rw [aEq_eq h.1, aEqs_eq h.2]
end

theorem again_eq {P : Program} {b : Array Nat} {i : Nat} {t : T} {o : Oper} {v : AVal} {al : List (Nat × Nat)} {h : Heap} (e : readAgain P b i t o v al h = true) : arVal (aOp P (aEval t) (maskH b i al h) o) = some v := by
  unfold readAgain at e
  cases hr : arVal (aOp P (aEval t) (maskH b i al h) o) with
  | none => rw [hr] at e; cases e
  | some u => rw [hr] at e; rw [aEq_eq (a := u) (b := v) e]

/-! ### The run in the text's order, laid down -/

inductive TK where
  | off | pure | read | alloc | eff

structure Lex where
  tt : Nat → T
  hh : Nat → Heap
  vv : Nat → AVal
  kk : Nat → TK
  aa : Nat → List (Nat × Nat)

section
variable {P : Program} {call : FuncId → List AVal → Heap → Res AVal} {nt : Nat} {ops : Array Oper} {b : Array Nat}

def LOk (P : Program) (call : FuncId → List AVal → Heap → Res AVal) (nt : Nat) (ops : Array Oper) (b : Array Nat) (L : Lex) (i : Nat) : Prop :=
  ∃ o, ops[i]? = some o ∧ putT nt (L.tt i) o.dst (L.vv i) = some (L.tt (i + 1)) ∧
  match L.kk i with
  | .off => aWanted ops (L.tt i) o = some false ∧ L.vv i = aUndef ∧ L.hh (i + 1) = L.hh i ∧ L.aa (i + 1) = L.aa i
  | .pure => aWanted ops (L.tt i) o = some true ∧ opKind P o = .pure ∧ arVal (aOp P (aEval (L.tt i)) (L.hh i) o) = some (L.vv i) ∧ L.hh (i + 1) = L.hh i ∧ L.aa (i + 1) = L.aa i
  | .read => aWanted ops (L.tt i) o = some true ∧ opKind P o = .read ∧ arVal (aOp P (aEval (L.tt i)) (maskH b i (L.aa i) (L.hh i)) o) = some (L.vv i) ∧ L.hh (i + 1) = L.hh i ∧ L.aa (i + 1) = L.aa i ∧
      ∀ k, k < i → L.kk k = .eff → ahead b k i = true ∨ readAgain P b i (L.tt i) o (L.vv i) (L.aa k) (L.hh k) = true
  | .alloc => aWanted ops (L.tt i) o = some true ∧ opKind P o = .alloc ∧ aOp P (aEval (L.tt i)) (L.hh i) o = .val (L.vv i) (L.hh (i + 1)) ∧ L.aa (i + 1) = (i, (L.hh i).next) :: L.aa i
  | .eff => aWanted ops (L.tt i) o = some true ∧ (∃ h2, aStep P call (L.tt i) (maskH b i (L.aa i) (L.hh i)) o = .ok (L.vv i) h2 ∧ L.hh (i + 1) = unmask b i (L.hh i) (L.aa i) h2) ∧ L.aa (i + 1) = L.aa i ∧
      (∀ k, k < i → L.kk k = .eff → ahead b k i = true) ∧ ∀ k q, k < i → L.kk k = .read → ops[k]? = some q → ahead b k i = true ∨ readAgain P b k (L.tt k) q (L.vv k) (L.aa i) (L.hh (i + 1)) = true

structure Same (L M : Lex) (i : Nat) : Prop where
  tt : ∀ j, j ≤ i + 1 → M.tt j = L.tt j
  hh : ∀ j, j ≤ i + 1 → M.hh j = L.hh j
  aa : ∀ j, j ≤ i + 1 → M.aa j = L.aa j
  vv : ∀ j, j ≤ i → M.vv j = L.vv j
  kk : ∀ j, j ≤ i → M.kk j = L.kk j

theorem LOk.congr {L M : Lex} {i : Nat} (s : Same L M i) (h : LOk P call nt ops b L i) : LOk P call nt ops b M i := by
  obtain ⟨o, ho, hp, h⟩ := h
  have t1 := s.tt i (by omega); have t2 := s.tt (i + 1) (by omega)
  have h1 := s.hh i (by omega); have h2 := s.hh (i + 1) (by omega)
  have a1 := s.aa i (by omega); have a2 := s.aa (i + 1) (by omega)
  have v1 := s.vv i (by omega); have k1 := s.kk i (by omega)
  refine ⟨o, ho, by rw [t1, t2, v1]; exact hp, ?_⟩
  rw [k1]
  cases hk : L.kk i <;> rw [hk] at h <;> simp only at h ⊢
  · rw [t1, v1, h1, h2, a1, a2]; exact h
  · rw [t1, v1, h1, h2, a1, a2]; exact h
  · rw [t1, v1, h1, h2, a1, a2]
    obtain ⟨q1, q2, q3, q4, q5, q6⟩ := h
    refine ⟨q1, q2, q3, q4, q5, fun k hk2 hk3 => ?_⟩
    rw [s.aa k (by omega), s.hh k (by omega)]
    rw [s.kk k (by omega)] at hk3
    exact q6 k hk2 hk3
  · rw [t1, v1, h1, h2, a1, a2]; exact h
  · rw [t1, v1, h1, h2, a1, a2]
    obtain ⟨q1, q2, q3, q4, q5⟩ := h
    refine ⟨q1, q2, q3, fun k hk2 hk3 => ?_, fun k q hk2 hk3 hq => ?_⟩
    · rw [s.kk k (by omega)] at hk3
      exact q4 k hk2 hk3
    · rw [s.kk k (by omega)] at hk3
      rw [s.tt k (by omega), s.vv k (by omega)]
      exact q5 k q hk2 hk3 hq

def setN {α : Type} (f : Nat → α) (i : Nat) (x : α) : Nat → α := fun j => if j = i then x else f j
theorem setN_same {α : Type} (f : Nat → α) (i : Nat) (x : α) : setN f i x i = x := if_pos rfl
theorem setN_ne {α : Type} (f : Nat → α) {i j : Nat} (x : α) (h : j ≠ i) : setN f i x j = f j := if_neg h

def Lex.ext (L : Lex) (i : Nat) (t : T) (h : Heap) (v : AVal) (k : TK) (al : List (Nat × Nat)) : Lex :=
  ⟨setN L.tt (i + 1) t, setN L.hh (i + 1) h, setN L.vv i v, setN L.kk i k, setN L.aa (i + 1) al⟩

structure Desc (ops : Array Oper) (L : Lex) (i : Nat) (D : Dr) : Prop where
  al : D.al = L.aa i
  ef : ∀ k, k < i → L.kk k = .eff → (k, L.aa k, L.hh k) ∈ D.ef
  rd : ∀ k q, k < i → L.kk k = .read → ops[k]? = some q → (k, L.tt k, q, L.vv k) ∈ D.rd

theorem efOk_spec {i : Nat} {t : T} {o : Oper} {v : AVal} : ∀ {l : List (Nat × List (Nat × Nat) × Heap)}, efOk P b i t o v l = true → ∀ {k al h}, (k, al, h) ∈ l → ahead b k i = true ∨ readAgain P b i t o v al h = true
  | (k, al, h) :: r, e, k', al', h', hm => by
    simp only [efOk, Bool.and_eq_true, Bool.or_eq_true] at e
    rcases List.mem_cons.1 hm with q | q
    · cases q; exact e.1
    · exact efOk_spec e.2 q

theorem rdOk_spec {k : Nat} {al : List (Nat × Nat)} {h : Heap} {l : List (Nat × T × Oper × AVal)} (e : rdOk P b k al h l = true) {i : Nat} {t : T} {o : Oper} {v : AVal} (hm : (i, t, o, v) ∈ l) :
    ahead b i k = true ∨ readAgain P b i t o v al h = true := by
  induction l with
  | nil => cases hm
  | cons x r ih =>
    obtain ⟨i', t', o', v'⟩ := x
    simp only [rdOk, Bool.and_eq_true, Bool.or_eq_true] at e
    rcases List.mem_cons.1 hm with q | q
    · simp only [Prod.mk.injEq] at q
      obtain ⟨rfl, rfl, rfl, rfl⟩ := q
      exact e.1
    · exact ih e.2 q

theorem efAll_spec {k : Nat} : ∀ {l : List (Nat × List (Nat × Nat) × Heap)}, efAll b k l = true → ∀ {j al h}, (j, al, h) ∈ l → ahead b j k = true
  | (j, al, h) :: r, e, j', al', h', hm => by
    simp only [efAll, Bool.and_eq_true] at e
    rcases List.mem_cons.1 hm with q | q
    · cases q; exact e.1
    · exact efAll_spec e.2 q

theorem Desc.next {L : Lex} {i : Nat} {D D' : Dr} (d : Desc ops L i D) {t : T} {h : Heap} {v : AVal} {k : TK} {al : List (Nat × Nat)} (hal : D'.al = al) (he : ∀ x ∈ D.ef, x ∈ D'.ef) (hr : ∀ x ∈ D.rd, x ∈ D'.rd)
    (hef : k = .eff → (i, L.aa i, L.hh i) ∈ D'.ef) (hrd : ∀ q, k = .read → ops[i]? = some q → (i, L.tt i, q, v) ∈ D'.rd) : Desc ops (L.ext i t h v k al) (i + 1) D' := by
  refine ⟨by rw [hal]; exact (setN_same _ _ _).symm, fun j hj hk => ?_, fun j q hj hk hq => ?_⟩
  · by_cases e : j = i
    · subst e
      simp only [Lex.ext, setN_same] at hk ⊢
      rw [setN_ne _ _ (by omega), setN_ne _ _ (by omega)]
      exact hef hk
    · simp only [Lex.ext] at hk ⊢
      rw [setN_ne _ _ e] at hk
      rw [setN_ne _ _ (by omega), setN_ne _ _ (by omega)]
      exact he _ (d.ef j (by omega) hk)
  · by_cases e : j = i
    · subst e
      simp only [Lex.ext, setN_same] at hk ⊢
      rw [setN_ne _ _ (by omega)]
      exact hrd q hk hq
    · simp only [Lex.ext] at hk ⊢
      rw [setN_ne _ _ e] at hk
      rw [setN_ne _ _ (by omega), setN_ne _ _ e]
      exact hr _ (d.rd j q (by omega) hk hq)

theorem ext_same {L : Lex} {i j : Nat} (h : j < i) (t : T) (hp : Heap) (v : AVal) (k : TK) (al : List (Nat × Nat)) : Same L (L.ext i t hp v k al) j :=
  ⟨fun x hx => setN_ne _ _ (by omega), fun x hx => setN_ne _ _ (by omega), fun x hx => setN_ne _ _ (by omega), fun x hx => setN_ne _ _ (by omega), fun x hx => setN_ne _ _ (by omega)⟩

theorem lex_of {tf : T} {hf : Heap} : ∀ (l : List Oper) (i : Nat) (D : Dr) (L : Lex), (∀ j, l[j]? = ops[i + j]?) → Desc ops L i D → (∀ j, j < i → LOk P call nt ops b L j) →
    drawOps P call nt ops b l i D (L.tt i) (L.hh i) = .ok tf hf →
    ∃ M : Lex, M.tt 0 = L.tt 0 ∧ M.hh 0 = L.hh 0 ∧ M.aa 0 = L.aa 0 ∧ M.tt (i + l.length) = tf ∧ M.hh (i + l.length) = hf ∧ ∀ j, j < i + l.length → LOk P call nt ops b M j
  | [], i, D, L, _, _, hL, e => by
    simp only [drawOps, Res.ok.injEq] at e
    exact ⟨L, rfl, rfl, rfl, e.1, e.2, hL⟩
  | o :: rest, i, D, L, hl, d, hL, e => by
    have ho : ops[i]? = some o := by simpa using (hl 0).symm
    have hl' : ∀ j, rest[j]? = ops[i + 1 + j]? := fun j => by have := hl (j + 1); simpa [Nat.add_assoc, Nat.add_comm 1 j] using this
    have go : ∀ {t : T} {h : Heap} {v : AVal} {k : TK} {al : List (Nat × Nat)} {D' : Dr}, putT nt (L.tt i) o.dst v = some t → LOk P call nt ops b (L.ext i t h v k al) i → Desc ops (L.ext i t h v k al) (i + 1) D' →
        drawOps P call nt ops b rest (i + 1) D' t h = .ok tf hf → ∃ M : Lex, M.tt 0 = L.tt 0 ∧ M.hh 0 = L.hh 0 ∧ M.aa 0 = L.aa 0 ∧ M.tt (i + (o :: rest).length) = tf ∧ M.hh (i + (o :: rest).length) = hf ∧ ∀ j, j < i + (o :: rest).length → LOk P call nt ops b M j := by
      intro t h v k al D' hp hk hd e'
      have e2 : drawOps P call nt ops b rest (i + 1) D' ((L.ext i t h v k al).tt (i + 1)) ((L.ext i t h v k al).hh (i + 1)) = .ok tf hf := by
        simp only [Lex.ext, setN_same]; exact e'
      obtain ⟨M, m1, m2, m3, m4, m5, m6⟩ := lex_of rest (i + 1) D' (L.ext i t h v k al) hl' hd (fun j hj => by
        by_cases q : j = i
        · subst q; exact hk
        · exact (hL j (by omega)).congr (ext_same (by omega) t h v k al)) e2
      have hlen : i + (o :: rest).length = i + 1 + rest.length := by simp; omega
      rw [hlen]
      have z : (0 : Nat) ≠ i + 1 := by omega
      exact ⟨M, m1.trans (setN_ne L.tt t z), m2.trans (setN_ne L.hh h z), m3.trans (setN_ne L.aa al z), m4, m5, m6⟩
    have s1 : ∀ {t : T} {h : Heap} {v : AVal} {k : TK} {al : List (Nat × Nat)}, (L.ext i t h v k al).tt i = L.tt i := setN_ne _ _ (by omega)
    have s2 : ∀ {t : T} {h : Heap} {v : AVal} {k : TK} {al : List (Nat × Nat)}, (L.ext i t h v k al).hh i = L.hh i := setN_ne _ _ (by omega)
    have s3 : ∀ {t : T} {h : Heap} {v : AVal} {k : TK} {al : List (Nat × Nat)}, (L.ext i t h v k al).aa i = L.aa i := setN_ne _ _ (by omega)
    have s4 : ∀ {t : T} {h : Heap} {v : AVal} {k : TK} {al : List (Nat × Nat)}, (L.ext i t h v k al).tt (i + 1) = t := setN_same _ _ _
    have s5 : ∀ {t : T} {h : Heap} {v : AVal} {k : TK} {al : List (Nat × Nat)}, (L.ext i t h v k al).hh (i + 1) = h := setN_same _ _ _
    have s6 : ∀ {t : T} {h : Heap} {v : AVal} {k : TK} {al : List (Nat × Nat)}, (L.ext i t h v k al).aa (i + 1) = al := setN_same _ _ _
    have s7 : ∀ {t : T} {h : Heap} {v : AVal} {k : TK} {al : List (Nat × Nat)}, (L.ext i t h v k al).vv i = v := setN_same _ _ _
    have s8 : ∀ {t : T} {h : Heap} {v : AVal} {k : TK} {al : List (Nat × Nat)}, (L.ext i t h v k al).kk i = k := setN_same _ _ _
    have s9 : ∀ {t : T} {h : Heap} {v : AVal} {k : TK} {al : List (Nat × Nat)} (j : Nat), j < i → (L.ext i t h v k al).kk j = L.kk j := fun j hj => setN_ne _ _ (by omega)
    have sa : ∀ {t : T} {h : Heap} {v : AVal} {k : TK} {al : List (Nat × Nat)} (j : Nat), j < i → (L.ext i t h v k al).aa j = L.aa j := fun j hj => setN_ne _ _ (by omega)
    have sb : ∀ {t : T} {h : Heap} {v : AVal} {k : TK} {al : List (Nat × Nat)} (j : Nat), j < i → (L.ext i t h v k al).hh j = L.hh j := fun j hj => setN_ne _ _ (by omega)
    have sc : ∀ {t : T} {h : Heap} {v : AVal} {k : TK} {al : List (Nat × Nat)} (j : Nat), j < i → (L.ext i t h v k al).tt j = L.tt j := fun j hj => setN_ne _ _ (by omega)
    have sd : ∀ {t : T} {h : Heap} {v : AVal} {k : TK} {al : List (Nat × Nat)} (j : Nat), j < i → (L.ext i t h v k al).vv j = L.vv j := fun j hj => setN_ne _ _ (by omega)
    simp only [drawOps] at e
    cases hw : aWanted ops (L.tt i) o with
    | none => rw [hw] at e; cases e
    | some bb =>
      rw [hw] at e
      cases bb with
      | false =>
        dsimp only at e
        cases hp : putT nt (L.tt i) o.dst aUndef with
        | none => rw [hp] at e; cases e
        | some t' =>
          rw [hp] at e
          refine go (h := L.hh i) (v := aUndef) (k := .off) (al := L.aa i) hp ⟨o, ho, by rw [s1, s4, s7]; exact hp, ?_⟩ (d.next d.al (fun _ x => x) (fun _ x => x) (fun q => by cases q) fun _ q => by cases q) e
          rw [s8]; dsimp only; rw [s1, s2, s3, s5, s6, s7]
          exact ⟨hw, rfl, rfl, rfl⟩
      | true =>
        dsimp only at e
        cases hk : opKind P o with
        | pure =>
          rw [hk] at e
          dsimp only at e
          cases hv : arVal (aOp P (aEval (L.tt i)) (L.hh i) o) with
          | none => rw [hv] at e; cases e
          | some v =>
            rw [hv] at e
            dsimp only at e
            cases hp : putT nt (L.tt i) o.dst v with
            | none => rw [hp] at e; cases e
            | some t' =>
              rw [hp] at e
              refine go (h := L.hh i) (v := v) (k := .pure) (al := L.aa i) hp ⟨o, ho, by rw [s1, s4, s7]; exact hp, ?_⟩ (d.next d.al (fun _ x => x) (fun _ x => x) (fun q => by cases q) fun _ q => by cases q) e
              rw [s8]; dsimp only; rw [s1, s2, s3, s5, s6, s7]
              exact ⟨hw, hk, hv, rfl, rfl⟩
        | read =>
          rw [hk] at e
          dsimp only at e
          rw [d.al] at e
          cases hv : arVal (aOp P (aEval (L.tt i)) (maskH b i (L.aa i) (L.hh i)) o) with
          | none => rw [hv] at e; cases e
          | some v =>
            rw [hv] at e
            dsimp only at e
            cases hp : putT nt (L.tt i) o.dst v with
            | none => rw [hp] at e; cases e
            | some t' =>
              rw [hp] at e
              dsimp only at e
              split at e
              · rename_i hef
                refine go (h := L.hh i) (v := v) (k := .read) (al := L.aa i) hp ⟨o, ho, by rw [s1, s4, s7]; exact hp, ?_⟩ (d.next (D' := { al := L.aa i, ef := D.ef, rd := (i, L.tt i, o, v) :: D.rd }) rfl (fun _ x => x) (fun _ x => List.mem_cons_of_mem _ x) (fun q => by cases q) fun q _ hq => by rw [ho] at hq; cases hq; exact List.mem_cons_self) e
                rw [s8]; dsimp only; rw [s1, s2, s3, s5, s6, s7]
                refine ⟨hw, hk, hv, rfl, rfl, fun j hj hkj => ?_⟩
                rw [s9 j hj] at hkj
                rw [sa j hj, sb j hj]
                exact efOk_spec hef (d.ef j hj hkj)
              · cases e
        | alloc =>
          rw [hk] at e
          dsimp only at e
          cases hv : aOp P (aEval (L.tt i)) (L.hh i) o with
          | val v h' =>
            rw [hv] at e
            dsimp only at e
            cases hp : putT nt (L.tt i) o.dst v with
            | none => rw [hp] at e; cases e
            | some t' =>
              rw [hp] at e
              dsimp only at e
              refine go (h := h') (v := v) (k := .alloc) (al := (i, (L.hh i).next) :: L.aa i) hp ⟨o, ho, by rw [s1, s4, s7]; exact hp, ?_⟩ (d.next (D' := { D with al := (i, (L.hh i).next) :: D.al }) (by rw [d.al]) (fun _ x => x) (fun _ x => x) (fun q => by cases q) fun _ q => by cases q) e
              rw [s8]; dsimp only; rw [s1, s2, s3, s5, s6, s7]
              exact ⟨hw, hk, hv, rfl⟩
          | _ => rw [hv] at e; cases e
        | eff =>
          rw [hk] at e
          dsimp only at e
          rw [d.al] at e
          cases hv : aStep P call (L.tt i) (maskH b i (L.aa i) (L.hh i)) o with
          | ok v h2 =>
            rw [hv] at e
            dsimp only at e
            cases hp : putT nt (L.tt i) o.dst v with
            | none => rw [hp] at e; cases e
            | some t' =>
              rw [hp] at e
              dsimp only at e
              split at e
              · rename_i hchk
                simp only [Bool.and_eq_true] at hchk
                refine go (h := unmask b i (L.hh i) (L.aa i) h2) (v := v) (k := .eff) (al := L.aa i) hp ⟨o, ho, by rw [s1, s4, s7]; exact hp, ?_⟩ (d.next (D' := { al := L.aa i, ef := (i, L.aa i, L.hh i) :: D.ef, rd := D.rd }) rfl (fun _ x => List.mem_cons_of_mem _ x) (fun _ x => x) (fun _ => List.mem_cons_self) fun _ q => by cases q) e
                rw [s8]; dsimp only; rw [s1, s2, s3, s5, s6, s7]
                refine ⟨hw, ⟨h2, hv, rfl⟩, rfl, fun j hj hkj => ?_, fun j q hj hkj hq => ?_⟩
                · rw [s9 j hj] at hkj
                  exact efAll_spec hchk.1 (d.ef j hj hkj)
                · rw [s9 j hj] at hkj
                  rw [sc j hj, sd j hj]
                  exact rdOk_spec hchk.2 (d.rd j q hj hkj hq)
              · cases e
          | _ => rw [hv] at e; cases e
        | bar => rw [hk] at e; cases e

end
end Go.Ab
