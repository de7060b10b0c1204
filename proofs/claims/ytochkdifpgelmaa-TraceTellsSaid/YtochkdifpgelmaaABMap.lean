/-
  The abstract machine: maps. What each operation on one does to the heap.
-/
import Derived.Test.YtochkdifpgelmaaABOp2
import Derived.MapKept
set_option linter.unusedVariables false
set_option linter.unusedSimpArgs false
namespace Go.Ab

section
variable {n0 : Nat} {w0 : World} {ρ ρ' : Ren} {h h' : Heap} {w w' : World} {P : Program}

/-- A new map. -/
theorem HR.allocM (H : HR n0 w0 ρ h w) (hf : ρ h.next = none) :
    HR n0 w0 (ρ.put h.next ⟨w.heap.size, 0, 0, true⟩) (h.new true []) (w.alloc (.map #[] 0)) ∧ St n0 ρ h w (ρ.put h.next ⟨w.heap.size, 0, 0, true⟩) (h.new true []) (w.alloc (.map #[] 0)) := by
  have hle := Ren.le_put hf ⟨w.heap.size, 0, 0, true⟩
  have hN := H.hN
  have hn0 : n0 ≤ h.next := by have := H.hn; simp only [Heap.next]; omega
  have hold : ∀ c, c < w.heap.size → (w.alloc (.map #[] 0)).heap[c]? = w.heap[c]? := fun c hc => RowKit.Below.heap_alloc _ _ _ hc
  have hnew : (w.alloc (.map #[] 0)).heap[w.heap.size]? = some (.map #[] 0) := by
    show (w.heap.push (.map #[] 0))[w.heap.size]? = _
    simp
  have hsz := H.below.size
  have hg := Heap.get_new h true []
  have hnx := next_new' h true []
  refine ⟨⟨H.hn, H.hN, ?_, ?_, ?_, H.below.alloc hsz _⟩, ⟨hle, ?_, by omega, by simp, ?_⟩⟩
  · intro b cs' hb eb
    rw [hg, if_neg (by omega)] at eb
    obtain ⟨C', e', fz', h1, h2⟩ := H.base b cs' hb eb
    refine ⟨C', e', fz', ?_, fun i v hi => ?_⟩
    · rw [hold b (Array.getElem?_eq_some_iff.1 h1).1]; exact h1
    · obtain ⟨v', a, b⟩ := h2 i v hi; exact ⟨v', a, b.mono hle⟩
  · intro b cs' hb eb
    rw [hg] at eb
    split at eb
    · rename_i hbn; subst hbn; cases eb
      exact ⟨⟨w.heap.size, 0, 0, true⟩, #[], 0, (0, 0), if_pos rfl, hsz, .inr ⟨rfl, rfl, rfl, #[], hnew, rfl, by simp⟩, .inl (by simp), by simp, by simp⟩
    · rename_i hbn
      obtain ⟨l, C', e', fz', h1, h2, h3, h4, h5, h6⟩ := H.new b cs' hb eb
      refine ⟨l, C', e', fz', hle _ _ h1, h2, h3.keep (hold _ h3.lt), h4, h5, fun i v hi => ?_⟩
      obtain ⟨v', a, b⟩ := h6 i v hi; exact ⟨v', a, b.mono hle⟩
  · intro b c l m x y hb hc' e1 e2 e3 e4 e5
    rw [hg] at e1 e2
    unfold Ren.put at e3 e4
    split at e1
    · rename_i k1; subst k1
      rw [if_pos rfl] at e3; cases e3
      split at e2
      · rename_i k2; exact .inl k2.symm
      · rename_i k2
        rw [if_neg k2] at e4
        have := H.lt hc' e2 e4
        simp at e5; omega
    · rename_i k1
      rw [if_neg k1] at e3
      split at e2
      · rename_i k2; subst k2
        rw [if_pos rfl] at e4; cases e4
        have := H.lt hb e1 e3
        simp at e5; omega
      · rename_i k2
        rw [if_neg k2] at e4
        rcases H.inj b c l m x y hb hc' e1 e2 e3 e4 e5 with q | ⟨r, q1, q2, q3, q4⟩
        · exact .inl q
        · exact .inr ⟨r, by rw [Heap.cls_new]; exact q1, by rw [Heap.cls_new]; exact q2, fun z => ⟨(Heap.spent_new h true [] b).trans (q3 z).1, (q3 z).2⟩, fun z => ⟨(Heap.spent_new h true [] c).trans (q4 z).1, (q4 z).2⟩⟩
  · intro b hb
    unfold Ren.put at hb
    split at hb
    · rename_i k; exact .inr ⟨by omega, by omega⟩
    · exact .inl hb
  · intro c hc k
    refine ⟨hold c hc, fun b x l hb eb el => ?_⟩
    rw [hg] at eb
    unfold Ren.put at el
    split at eb
    · rename_i k1; rw [if_pos k1] at el; cases el; simp; omega
    · rename_i k1; rw [if_neg k1] at el; exact k b x l hb eb el

/-- A map is another one. -/
theorem HR.putM (H : HR n0 w0 ρ h w) {b : Nat} {cs cs' : List AVal} {l : RLoc} (hb : n0 ≤ b) (hc : h.cls b = none) (hcs : h.get b = some cs) (g1 : ρ b = some l) (hm : l.mp = true) {C' : Array Value} {es' : Array MapEntry}
    (hf : C'.toList = flat es'.toList) (hl : cs'.length = C'.size) (hbn : ∀ (i : Nat) (x : MapEntry), es'[i]? = some x → x.born = i) (hv : ∀ (i : Nat) v, cs'[i]? = some v → ∃ v', C'[i]? = some v' ∧ VR n0 ρ v v') :
    HR n0 w0 ρ (h.putB b cs') (setBlk w l.blk (.map es' es'.size)) ∧ St n0 ρ h w ρ (h.putB b cs') (setBlk w l.blk (.map es' es'.size)) := by
  have hb0 : h.n0 ≤ b := by rw [H.hn]; exact hb
  have hbx : b < h.next := Heap.lt_of_get hb0 hcs
  have hup := Heap.up_of_get hb0 hcs
  have hpg := fun j => Heap.get_putB h hb0 hbx hup cs' j
  have nomate : ∀ j, ¬ h.mate b j := fun j ⟨_, r, z, _⟩ => by rw [hc] at z; cases z
  have hold : ∀ x z, (h.putB b cs').get x = some z → (x = b ∧ z = cs') ∨ (x ≠ b ∧ h.get x = some z) := fun x z ez => by
    obtain ⟨p1, _, p3⟩ := hpg x
    by_cases q : x = b
    · rw [p1 q] at ez; cases ez; exact .inl ⟨q, rfl⟩
    · rw [p3 q (nomate x)] at ez; exact .inr ⟨q, ez⟩
  have hcl : (h.putB b cs').cls = h.cls := funext fun j => Heap.cls_putB h b _ j
  have hspn : (h.putB b cs').spent = h.spent := funext fun j => Heap.spent_putB h b _ j
  have hn0' := Heap.n0_putB h b cs'
  have hnx' := Heap.next_putB h b cs'
  obtain ⟨l', C, e', fz, q1, g2, g3, g4, g5, g6⟩ := H.new b cs hb hcs
  rw [g1] at q1; cases q1
  have hlt := g3.lt
  have hs0 : l.shift = 0 := by
    rcases g3 with ⟨k, _⟩ | ⟨_, k, _⟩
    · rw [hm] at k; cases k
    · exact k
  have ne : ∀ {b2 : Nat} {cs2 : List AVal} {l2 : RLoc}, n0 ≤ b2 → b2 ≠ b → h.get b2 = some cs2 → ρ b2 = some l2 → l.blk ≠ l2.blk := fun hb2 hne e el q => by
    rcases H.inj _ b _ l _ cs hb2 hb e hcs el g1 q.symm with z | ⟨r, _, z, _⟩
    · exact hne z
    · rw [hc] at z; cases z
  have hsz := H.below.size
  refine ⟨⟨hn0'.trans H.hn, H.hN, ?_, ?_, ?_, below_setBlk H.below g2 _⟩, ⟨ρ.le_refl, fun _ e => .inl e, by rw [hnx']; exact Nat.le_refl _, by simp [setBlk], ?_⟩⟩
  · intro b2 cs2 hb2 eb
    rcases hold b2 cs2 eb with ⟨q, _⟩ | ⟨_, eb⟩
    · omega
    obtain ⟨C2, e2, fz2, k1, k2⟩ := H.base b2 cs2 hb2 eb
    have hN := H.hN
    exact ⟨C2, e2, fz2, by rw [getElem?_setBlk, if_neg (by omega)]; exact k1, k2⟩
  · intro b2 cs2 hb2 eb
    rcases hold b2 cs2 eb with ⟨q1, q2⟩ | ⟨k, eb⟩
    · subst q1; subst q2
      refine ⟨l, C', e', (C'.size, C'.size), g1, g2, .inr ⟨hm, hs0, hl, es', by rw [getElem?_setBlk, if_pos rfl, if_pos hlt], hf, hbn⟩, .inl (Nat.le_refl _), fun k => (by rw [hm] at k; cases k), fun i v hi => ?_⟩
      rw [hs0, Nat.zero_add]
      exact hv i v hi
    · obtain ⟨l2, C2, e2, fz2, k1, k2, k3, k4, k5, k6⟩ := H.new b2 cs2 hb2 eb
      exact ⟨l2, C2, e2, fz2, k1, k2, k3.keep (by rw [getElem?_setBlk, if_neg (ne hb2 k eb k1)]), k4, k5, k6⟩
  · intro b2 c2 l2 m2 x y hb2 hc2 e1 e2 e3 e4 e5
    rw [hcl, hspn]
    rcases hold b2 x e1 with ⟨q1, q2⟩ | ⟨k, _⟩
    · subst q1
      rw [g1] at e3; cases e3
      rcases hold c2 y e2 with ⟨q3, _⟩ | ⟨k2, e2⟩
      · exact .inl q3.symm
      · exact absurd e5 (ne hc2 k2 e2 e4)
    · rename_i f1
      rcases hold c2 y e2 with ⟨q3, _⟩ | ⟨k2, e2⟩
      · subst q3
        rw [g1] at e4; cases e4
        exact absurd e5.symm (ne hb2 k f1 e3)
      · exact H.inj b2 c2 l2 m2 x y hb2 hc2 f1 e2 e3 e4 e5
  · intro c hc' k
    have hne : l.blk ≠ c := k b cs l hb hcs g1
    refine ⟨by rw [getElem?_setBlk, if_neg hne], fun b2 x l2 hb2 e1 e2 => ?_⟩
    rcases hold b2 x e1 with ⟨q, _⟩ | ⟨_, q⟩
    · subst q; exact k _ cs l2 hb2 hcs e2
    · exact k b2 x l2 hb2 q e2


/-! ### Where a key lies -/

/-- Entries with the same keys: the same is found. -/
def FR (off : Nat) (l' : List MapEntry) : Option (Nat × Value) → Option (Nat × Value) → Prop
  | none, none => True
  | some (j, _), some (j', v') => j = j' ∧ off ≤ j ∧ ∃ x, l'[j - off]? = some x ∧ x.val = v'
  | _, _ => False

theorem FR.up {off : Nat} {l' : List MapEntry} {x : MapEntry} {r r' : Option (Nat × Value)} (k : FR (off + 1) l' r r') : FR off (x :: l') r r' := by
  match r, r', k with
  | none, none, _ => trivial
  | some (j, _), some (j', v'), ⟨a, b, y, c, d⟩ => exact ⟨a, by omega, y, by rw [show j - off = (j - (off + 1)) + 1 by omega]; simpa using c, d⟩

theorem findNow_same {kind : TypeDesc} {k : Value} : ∀ (l l' : List MapEntry) (off : Nat), l.map (·.key) = l'.map (·.key) →
    (Instr.findNow kind k l off = none ∧ Instr.findNow kind k l' off = none) ∨ ∃ r r', Instr.findNow kind k l off = some r ∧ Instr.findNow kind k l' off = some r' ∧ FR off l' r r'
  | [], [], off, _ => .inr ⟨none, none, rfl, rfl, trivial⟩
  | [], _ :: _, _, e => by simp at e
  | _ :: _, [], _, e => by simp at e
  | x :: l, y :: l', off, e => by
    simp only [List.map_cons, List.cons.injEq] at e
    simp only [Instr.findNow, e.1]
    cases hs : Instr.sameNow kind k y.key with
    | none => exact .inl ⟨rfl, rfl⟩
    | some b =>
      cases b with
      | true => exact .inr ⟨_, _, rfl, rfl, rfl, Nat.le_refl _, y, by simp, rfl⟩
      | false =>
        rcases findNow_same l l' (off + 1) e.2 with q | ⟨r, r', q1, q2, q3⟩
        · exact .inl q
        · exact .inr ⟨r, r', q1, q2, q3.up⟩

theorem aPure_seq {α β : Type} (s : Sem α) (f : α → Sem β) : aPure P (s >>= f) = (aPure P s).bind fun a => aPure P (f a) := by
  show aPure P (s.bind f) = _
  induction s with
  | pure a => rfl
  | program k ih => exact ih P
  | mark m k ih => exact ih
  | _ => rfl

theorem findAsking_same {kt : TypeId} {k : Value} : ∀ (l l' : List MapEntry) (off : Nat), l.map (·.key) = l'.map (·.key) → ∀ r, aPure P (Instr.findAsking kt k l off) = some r →
    ∃ r', aPure P (Instr.findAsking kt k l' off) = some r' ∧ FR off l' r r'
  | [], [], off, _, r, e => by simp only [Instr.findAsking] at e ⊢; cases e; exact ⟨none, rfl, trivial⟩
  | [], _ :: _, _, e, _, _ => by simp at e
  | _ :: _, [], _, e, _, _ => by simp at e
  | x :: l, y :: l', off, e, r, he => by
    simp only [List.map_cons, List.cons.injEq] at e
    simp only [Instr.findAsking, aPure_seq, e.1] at he ⊢
    cases hs : aPure P (Op.equal kt k y.key) with
    | none => rw [hs] at he; cases he
    | some b =>
      rw [hs] at he
      simp only [Option.bind] at he ⊢
      cases b with
      | true =>
        simp only [if_true] at he ⊢
        cases he
        exact ⟨_, rfl, rfl, Nat.le_refl _, y, by simp, rfl⟩
      | false =>
        simp only [Bool.false_eq_true, if_false] at he ⊢
        obtain ⟨r', q1, q2⟩ := findAsking_same l l' (off + 1) e.2 r he
        exact ⟨r', q1, q2.up⟩

theorem findKey_same {kt : TypeId} {k : Value} {l l' : List MapEntry} (hk : l.map (·.key) = l'.map (·.key)) {r : Option (Nat × Value)} (e : aPure P (Instr.findKey kt k l) = some r) :
    ∃ r', aPure P (Instr.findKey kt k l') = some r' ∧ FR 0 l' r r' := by
  unfold Instr.findKey at e ⊢
  rw [aPure_seq] at e ⊢
  cases hu : aPure P (underlying kt) with
  | none => rw [hu] at e; cases e
  | some d =>
    rw [hu] at e
    simp only [Option.bind] at e ⊢
    rcases findNow_same (kind := d) (k := k) l l' 0 hk with ⟨q1, q2⟩ | ⟨r1, r2, q1, q2, q3⟩
    · rw [q1] at e
      rw [q2]
      exact findAsking_same l l' 0 hk r e
    · rw [q1] at e
      rw [q2]
      cases e
      exact ⟨r2, rfl, q3⟩

theorem mflat_nil {es : List MapEntry} (e : flat es = []) : es = [] := by
  cases es with
  | nil => rfl
  | cons x r => simp [flat] at e

theorem mflat_len (es : List MapEntry) : (flat es).length = 2 * es.length := by
  induction es with
  | nil => rfl
  | cons x r ih => simp only [flat, List.flatMap_cons, List.length_append, List.length_cons, List.length_nil] at ih ⊢; omega

theorem mflat_at : ∀ (es : List MapEntry) (i : Nat) (x : MapEntry), es[i]? = some x → (flat es)[2 * i]? = some x.key ∧ (flat es)[2 * i + 1]? = some x.val
  | [], i, x, h => by simp at h
  | y :: r, 0, x, h => by simp at h; subst h; simp [flat]
  | y :: r, i + 1, x, h => by
    obtain ⟨a, b⟩ := mflat_at r i x (by simpa using h)
    have : flat (y :: r) = y.key :: y.val :: flat r := by simp [flat]
    rw [this, show 2 * (i + 1) = 2 * i + 1 + 1 by omega]
    exact ⟨by simpa using a, by simpa using b⟩

/-- The keys of a map's cells are the entries' keys. -/
theorem entries_keys : ∀ (cs : List AVal) (es es0 : List MapEntry), VRs n0 ρ cs (flat es) → aEntries cs = some es0 → es0.map (·.key) = es.map (·.key)
  | [], es, es0, hv, e => by
    simp only [aEntries, Option.some.injEq] at e
    subst e
    have : flat es = [] := List.eq_nil_of_length_eq_zero hv.length.symm
    rw [mflat_nil this]
  | [_], _, _, _, e => by simp [aEntries] at e
  | k :: v :: r, [], _, hv, _ => by cases hv
  | k :: v :: r, x :: es, es0, hv, e => by
    simp only [aEntries] at e
    split at e
    · rename_i a l ha hl
      cases e
      have : flat (x :: es) = x.key :: x.val :: flat es := by simp [flat]
      rw [this] at hv
      cases hv with
      | cons h1 h2 =>
        cases h2 with
        | cons h2 h3 =>
          have := toV_eq ha h1
          simp only [List.map_cons, entries_keys r es l h3 hl, this]
    · cases e

/-- What is known of a map's block. -/
structure MapAt (n0 : Nat) (ρ : Ren) (h : Heap) (w : World) (b r : Nat) (cs : List AVal) (es : Array MapEntry) : Prop where
  hb : n0 ≤ b
  cls : h.cls b = none
  get : h.get b = some cs
  loc : ∃ l, ρ b = some l ∧ l.mp = true ∧ l.blk = r
  obj : w.heap[r]? = some (.map es es.size)
  vals : VRs n0 ρ cs (flat es.toList)
  born : ∀ (i : Nat) (x : MapEntry), es[i]? = some x → x.born = i

theorem map_at (H : HR n0 w0 ρ h w) {b : Nat} {cs : List AVal} {x' : Value} (hx : VR n0 ρ (.mp b) x') (e : mapCells h b = some cs) : ∃ r es, x' = .map (some r) ∧ MapAt n0 ρ h w b r cs es := by
  cases hx with
  | mp hb hl hm =>
    rename_i l
    unfold mapCells at e
    rw [H.hn, if_pos hb] at e
    split at e
    · rename_i hc
      obtain ⟨l', C, e', fz, q1, g2, g3, g4, g5, g6⟩ := H.new b cs hb e
      rw [hl] at q1; cases q1
      rcases g3 with ⟨k, _⟩ | ⟨_, hs0, hlen, es, k1, k2, k3⟩
      · rw [hm] at k; cases k
      · refine ⟨l.blk, es, rfl, hb, hc, e, ⟨l, hl, hm, rfl⟩, k1, ?_, k3⟩
        rw [← k2]
        refine VRs.of_get (by simpa using hlen) fun i v v' h1 h2 => ?_
        obtain ⟨u, q1, q2⟩ := g6 i v h1
        rw [hs0, Nat.zero_add] at q1
        have : C.toList[i]? = some u := by simpa using q1
        rw [this] at h2; cases h2
        exact q2
    · cases e

theorem map_find {b r : Nat} {cs : List AVal} {es : Array MapEntry} (M : MapAt n0 ρ h w b r cs es) {kt : TypeId} {kv : Value} {o : Option Nat} (e : aFind P kt kv cs = some o) (w2 : World) :
    (Instr.checkKey es.isEmpty 10000 kt kv).run P w2 = .ok () w2 ∧ ∃ q, (Instr.findKey kt kv es.toList).run P w2 = .ok q w2 ∧ ((o = none ∧ q = none) ∨ ∃ i v x, o = some i ∧ q = some (i, v) ∧ es[i]? = some x ∧ x.val = v) := by
  unfold aFind at e
  split at e
  · rename_i es0 he
    have hk := entries_keys cs es.toList es0 M.vals he
    have hemp : es0.isEmpty = es.isEmpty := by
      have := congrArg List.length hk
      simp only [List.length_map, Array.length_toList] at this
      cases es0 with
      | nil => simp at this; simp [Array.isEmpty, ← this]
      | cons x r =>
        have h0 : es.size ≠ 0 := by rw [← this]; simp
        simp [Array.isEmpty, h0]
    rw [hemp] at e
    have key : ∀ res, aPure P (do Instr.checkKey es.isEmpty 10000 kt kv; Instr.findKey kt kv es0) = some res → (Instr.checkKey es.isEmpty 10000 kt kv).run P w2 = .ok () w2 ∧ ∃ q, (Instr.findKey kt kv es.toList).run P w2 = .ok q w2 ∧ FR 0 es.toList res q := by
      intro res hres
      rw [aPure_seq] at hres
      cases hc : aPure P (Instr.checkKey es.isEmpty 10000 kt kv) with
      | none => rw [hc] at hres; cases hres
      | some u =>
        rw [hc] at hres
        simp only [Option.bind] at hres
        obtain ⟨q, q1, q2⟩ := findKey_same hk hres
        exact ⟨aPure_run hc w2, q, aPure_run q1 w2, q2⟩
    split at e
    · rename_i i v hr
      cases e
      obtain ⟨k1, q, k2, k3⟩ := key _ hr
      refine ⟨k1, q, k2, .inr ?_⟩
      match q, k3 with
      | some (j, v'), ⟨a, _, x, c, d⟩ => subst a; exact ⟨i, v', x, rfl, rfl, by simpa using c, d⟩
    · rename_i hr
      cases e
      obtain ⟨k1, q, k2, k3⟩ := key _ hr
      refine ⟨k1, q, k2, .inl ⟨rfl, ?_⟩⟩
      match q, k3 with
      | none, _ => rfl
    · cases e
  · cases e

end
end Go.Ab
