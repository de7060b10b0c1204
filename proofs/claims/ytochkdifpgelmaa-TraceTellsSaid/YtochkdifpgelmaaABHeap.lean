/-
  The abstract machine: how its heap stands to the model's, and what each change of it does to that.
-/
import Derived.Test.YtochkdifpgelmaaABRel
import Derived.Laws.CopyRow
set_option linter.unusedVariables false
set_option linter.unusedSimpArgs false
namespace Go.Ab

def fine (n : Nat) (fz : Nat × Nat) : Prop := n ≤ fz.1 ∨ fz.2 ≤ fz.1

/-- Rows that may lie in one row of the model's: of one class, the elder one spent, and its end not behind the other one's. -/
def Al (cl : Nat → Option Nat) (sp : Nat → Bool) (b c eb ec : Nat) : Prop := ∃ r, cl b = some r ∧ cl c = some r ∧ (b < c → sp b = true ∧ eb ≤ ec) ∧ (c < b → sp c = true ∧ ec ≤ eb)

/-- A map's entries, one behind the other: keys and values. -/
def flat (es : List MapEntry) : List Value := es.flatMap fun e => [e.key, e.val]
/-- What lies at a block: cells, or a map whose entries came in this order and none of which went. -/
def Con (l : RLoc) (w : World) (C : Array Value) (e : TypeId) (fz : Nat × Nat) (cs : List AVal) : Prop :=
  (l.mp = false ∧ w.heap[l.blk]? = some (.cells C e fz)) ∨
  (l.mp = true ∧ l.shift = 0 ∧ cs.length = C.size ∧ ∃ es : Array MapEntry, w.heap[l.blk]? = some (.map es es.size) ∧ C.toList = flat es.toList ∧ ∀ (i : Nat) (x : MapEntry), es[i]? = some x → x.born = i)

structure HR (n0 : Nat) (w0 : World) (ρ : Ren) (h : Heap) (w : World) : Prop where
  hn : h.n0 = n0
  hN : n0 ≤ w0.heap.size
  base : ∀ b cs, b < n0 → h.get b = some cs → ∃ C e fz, w.heap[b]? = some (.cells C e fz) ∧ ∀ (i : Nat) v, cs[i]? = some v → ∃ v', C[i]? = some v' ∧ VR n0 ρ v v'
  new : ∀ b cs, n0 ≤ b → h.get b = some cs → ∃ l C e fz, ρ b = some l ∧ w0.heap.size ≤ l.blk ∧ Con l w C e fz cs ∧ fine C.size fz ∧ (l.mp = false → l.tot = C.size) ∧
    ∀ (i : Nat) v, cs[i]? = some v → ∃ v', C[l.shift + i]? = some v' ∧ VR n0 ρ v v'
  inj : ∀ b c l m x y, n0 ≤ b → n0 ≤ c → h.get b = some x → h.get c = some y → ρ b = some l → ρ c = some m → l.blk = m.blk → b = c ∨ Al h.cls h.spent b c (l.shift + x.length) (m.shift + y.length)
  below : RowKit.Below w0.heap.size w0 w

structure St (n0 : Nat) (ρ : Ren) (h : Heap) (w : World) (ρ' : Ren) (h' : Heap) (w' : World) : Prop where
  le : ρ.le ρ'
  dom : ∀ b, ρ' b ≠ none → ρ b ≠ none ∨ (h.next ≤ b ∧ b < h'.next)
  next : h.next ≤ h'.next
  size : w.heap.size ≤ w'.heap.size
  frame : ∀ c, c < w.heap.size → (∀ b x l, n0 ≤ b → h.get b = some x → ρ b = some l → l.blk ≠ c) →
    w'.heap[c]? = w.heap[c]? ∧ ∀ b x l, n0 ≤ b → h'.get b = some x → ρ' b = some l → l.blk ≠ c

/-- No name from lo on, below hi, is taken. -/
def Fr (ρ : Ren) (lo hi : Nat) : Prop := ∀ b, lo ≤ b → b < hi → ρ b = none

section
variable {n0 : Nat} {w0 : World} {ρ ρ' ρ'' : Ren} {h h' h'' : Heap} {w w' w'' : World}

theorem Con.lt {l : RLoc} {C : Array Value} {e : TypeId} {fz : Nat × Nat} {cs : List AVal} (k : Con l w C e fz cs) : l.blk < w.heap.size := by
  rcases k with ⟨_, k⟩ | ⟨_, _, _, es, k, _⟩ <;> exact (Array.getElem?_eq_some_iff.1 k).1
theorem Con.keep {l : RLoc} {C : Array Value} {e : TypeId} {fz : Nat × Nat} {cs : List AVal} (k : Con l w C e fz cs) (hw : w'.heap[l.blk]? = w.heap[l.blk]?) : Con l w' C e fz cs := by
  rcases k with ⟨a, k⟩ | ⟨a, b, c, es, k, d⟩
  · exact .inl ⟨a, by rw [hw]; exact k⟩
  · exact .inr ⟨a, b, c, es, by rw [hw]; exact k, d⟩
theorem Con.cells {l : RLoc} {C : Array Value} {e : TypeId} {fz : Nat × Nat} {cs : List AVal} (k : Con l w C e fz cs) (hm : l.mp = false) : w.heap[l.blk]? = some (.cells C e fz) := by
  rcases k with ⟨_, k⟩ | ⟨a, _⟩
  · exact k
  · rw [hm] at a; cases a
theorem Con.len {l : RLoc} {C : Array Value} {e : TypeId} {fz : Nat × Nat} {cs cs' : List AVal} (k : Con l w C e fz cs) (hl : cs'.length = cs.length) : Con l w C e fz cs' := by
  rcases k with k | ⟨a, b, c, es, k, d⟩
  · exact .inl k
  · exact .inr ⟨a, b, by rw [hl]; exact c, es, k, d⟩

theorem St.refl : St n0 ρ h w ρ h w := ⟨ρ.le_refl, fun _ e => .inl e, Nat.le_refl _, Nat.le_refl _, fun _ _ k => ⟨rfl, k⟩⟩

theorem St.trans (a : St n0 ρ h w ρ' h' w') (b : St n0 ρ' h' w' ρ'' h'' w'') : St n0 ρ h w ρ'' h'' w'' where
  le := Ren.le_trans a.le b.le
  dom := fun x e => by
    have an := a.next; have bn := b.next
    rcases b.dom x e with e | e
    · rcases a.dom x e with e | e
      · exact .inl e
      · exact .inr ⟨e.1, by omega⟩
    · exact .inr ⟨by omega, e.2⟩
  next := Nat.le_trans a.next b.next
  size := Nat.le_trans a.size b.size
  frame := fun c hc k => by
    obtain ⟨e1, k1⟩ := a.frame c hc k
    obtain ⟨e2, k2⟩ := b.frame c (Nat.lt_of_lt_of_le hc a.size) k1
    exact ⟨e2.trans e1, k2⟩

theorem Fr.sub {lo hi lo' hi' : Nat} (f : Fr ρ lo hi) (a : lo ≤ lo') (b : hi' ≤ hi) : Fr ρ lo' hi' := fun x p q => f x (Nat.le_trans a p) (Nat.lt_of_lt_of_le q b)

theorem Fr.step (a : St n0 ρ h w ρ' h' w') {hi : Nat} (f : Fr ρ h.next hi) : Fr ρ' h'.next hi := fun x p q => by
  have an := a.next
  cases e : ρ' x with
  | none => rfl
  | some l =>
    rcases a.dom x (by rw [e]; simp) with k | k
    · exact absurd (f x (by omega) q) k
    · omega

/-- Another heap of which no less is told. -/
theorem HR.sub (H : HR n0 w0 ρ h w) (hn : h'.n0 = h.n0) (hcl : h'.cls = h.cls) (hsp : h'.spent = h.spent) (hs : ∀ b, h'.get b = none ∨ h'.get b = h.get b) : HR n0 w0 ρ h' w where
  hn := hn.trans H.hn
  hN := H.hN
  base := fun b cs hb e => by
    rcases hs b with k | k
    · rw [k] at e; cases e
    · exact H.base b cs hb (k ▸ e)
  new := fun b cs hb e => by
    rcases hs b with k | k
    · rw [k] at e; cases e
    · exact H.new b cs hb (k ▸ e)
  inj := fun b c l m x y hb hc e1 e2 => by
    rw [hcl, hsp]
    rcases hs b with k | k
    · rw [k] at e1; cases e1
    · rcases hs c with k2 | k2
      · rw [k2] at e2; cases e2
      · exact H.inj b c l m x y hb hc (k ▸ e1) (k2 ▸ e2)
  below := H.below

theorem HR.drew (H : HR n0 w0 ρ h w) : HR n0 w0 ρ h w.drew := ⟨H.hn, H.hN, H.base, H.new, H.inj, H.below.drew⟩
theorem St.drew : St n0 ρ h w ρ h w.drew := ⟨ρ.le_refl, fun _ e => .inl e, Nat.le_refl _, Nat.le_refl _, fun _ _ k => ⟨rfl, k⟩⟩

theorem St.sub (hx : h'.next = h.next) (hs : ∀ b, h'.get b = none ∨ h'.get b = h.get b) : St n0 ρ h w ρ h' w :=
  ⟨ρ.le_refl, fun _ e => .inl e, by omega, Nat.le_refl _, fun c _ k => ⟨rfl, fun b x l hb e => by
    rcases hs b with e2 | e2
    · rw [e2] at e; cases e
    · exact k b x l hb (e2 ▸ e)⟩⟩

theorem HR.lt (H : HR n0 w0 ρ h w) {b : Nat} {cs : List AVal} {l : RLoc} (hb : n0 ≤ b) (e : h.get b = some cs) (el : ρ b = some l) : l.blk < w.heap.size := by
  obtain ⟨l', C, ee, fz, e1, _, e3, _⟩ := H.new b cs hb e
  rw [el] at e1; cases e1
  exact e3.lt

/-! ### A new block -/

def Ren.put (ρ : Ren) (b : Nat) (l : RLoc) : Ren := fun x => if x = b then some l else ρ x

theorem Ren.le_put {ρ : Ren} {b : Nat} (hb : ρ b = none) (l : RLoc) : ρ.le (ρ.put b l) := fun x m e => by
  unfold Ren.put
  split
  · rename_i k; subst k; rw [hb] at e; cases e
  · exact e

/-- A new row, whatever its class. -/
theorem HR.allocG (H : HR n0 w0 ρ h w) (hf : ρ h.next = none) {cs : List AVal} {C : Array Value} (e : TypeId) {fz : Nat × Nat} (hz : fine C.size fz)
    (hc : ∀ (i : Nat) v, cs[i]? = some v → ∃ v', C[i]? = some v' ∧ VR n0 ρ v v') {h' : Heap} (hn : h'.n0 = h.n0) (hnx : h'.next = h.next + 1) (hg : ∀ j, h'.get j = if j = h.next then some cs else h.get j)
    (hcl : ∀ j, j < h.next → h'.cls j = h.cls j) (hsp : ∀ j, n0 ≤ j → j < h.next → h.spent j = true → h'.spent j = true) :
    HR n0 w0 (ρ.put h.next ⟨w.heap.size, 0, C.size, false⟩) h' (w.alloc (.cells C e fz)) ∧ St n0 ρ h w (ρ.put h.next ⟨w.heap.size, 0, C.size, false⟩) h' (w.alloc (.cells C e fz)) := by
  have hle := Ren.le_put hf ⟨w.heap.size, 0, C.size, false⟩
  have hN := H.hN
  have hn0 : n0 ≤ h.next := by have := H.hn; simp only [Heap.next]; omega
  have hold : ∀ c, c < w.heap.size → (w.alloc (.cells C e fz)).heap[c]? = w.heap[c]? := fun c hc => RowKit.Below.heap_alloc _ _ _ hc
  have hnew : (w.alloc (.cells C e fz)).heap[w.heap.size]? = some (.cells C e fz) := by
    show (w.heap.push (.cells C e fz))[w.heap.size]? = _
    simp
  have hsz := H.below.size
  refine ⟨⟨hn.trans H.hn, H.hN, ?_, ?_, ?_, H.below.alloc hsz _⟩, ⟨hle, ?_, by omega, by simp, ?_⟩⟩
  · intro b cs' hb eb
    rw [hg, if_neg (by omega)] at eb
    obtain ⟨C', e', fz', h1, h2⟩ := H.base b cs' hb eb
    refine ⟨C', e', fz', ?_, fun i v hi => ?_⟩
    · rw [hold b (Array.getElem?_eq_some_iff.1 h1).1]; exact h1
    · obtain ⟨v', a, b⟩ := h2 i v hi; exact ⟨v', a, b.mono hle⟩
  · intro b cs' hb eb
    rw [hg] at eb
    split at eb
    · rename_i hbn; subst hbn; cases eb
      refine ⟨⟨w.heap.size, 0, C.size, false⟩, C, e, fz, if_pos rfl, hsz, .inl ⟨rfl, hnew⟩, hz, fun _ => rfl, fun i v hi => ?_⟩
      obtain ⟨v', a, b⟩ := hc i v hi
      exact ⟨v', by simpa using a, b.mono hle⟩
    · rename_i hbn
      obtain ⟨l, C', e', fz', h1, h2, h3, h4, h5, h6⟩ := H.new b cs' hb eb
      refine ⟨l, C', e', fz', hle _ _ h1, h2, h3.keep (hold _ h3.lt), h4, h5, fun i v hi => ?_⟩
      · obtain ⟨v', a, b⟩ := h6 i v hi; exact ⟨v', a, b.mono hle⟩
  · intro b c l m x y hb hc' e1 e2 e3 e4 e5
    rw [hg] at e1 e2
    unfold Ren.put at e3 e4
    split at e1
    · rename_i k1; subst k1
      rw [if_pos rfl] at e3; cases e3
      split at e2
      · rename_i k2; exact .inl k2.symm
      · rename_i k2
        rw [if_neg k2] at e4
        have := H.lt hc' e2 e4
        simp at e5; omega
    · rename_i k1
      rw [if_neg k1] at e3
      split at e2
      · rename_i k2; subst k2
        rw [if_pos rfl] at e4; cases e4
        have := H.lt hb e1 e3
        simp at e5; omega
      · rename_i k2
        rw [if_neg k2] at e4
        have lb := Heap.lt_of_get (h := h) (by rw [H.hn]; exact hb) e1
        have lc := Heap.lt_of_get (h := h) (by rw [H.hn]; exact hc') e2
        rcases H.inj b c l m x y hb hc' e1 e2 e3 e4 e5 with q | ⟨r, q1, q2, q3, q4⟩
        · exact .inl q
        · exact .inr ⟨r, by rw [hcl b lb]; exact q1, by rw [hcl c lc]; exact q2, fun z => ⟨hsp b hb lb (q3 z).1, (q3 z).2⟩, fun z => ⟨hsp c hc' lc (q4 z).1, (q4 z).2⟩⟩
  · intro b hb
    unfold Ren.put at hb
    split at hb
    · rename_i k; exact .inr ⟨by omega, by omega⟩
    · exact .inl hb
  · intro c hc k
    refine ⟨hold c hc, fun b x l hb eb el => ?_⟩
    rw [hg] at eb
    unfold Ren.put at el
    split at eb
    · rename_i k1; rw [if_pos k1] at el; cases el; simp; omega
    · rename_i k1; rw [if_neg k1] at el; exact k b x l hb eb el

theorem next_new' (h : Heap) (m : Bool) (cs : List AVal) : (h.new m cs).next = h.next + 1 := by simp [Heap.new, Heap.next]; omega
theorem next_newG' (h : Heap) (cs : List AVal) : (h.newG cs).next = h.next + 1 := by simp [Heap.newG, Heap.next]; omega
theorem next_app' (h : Heap) (r b : Nat) (cs : List AVal) : (h.app r b cs).next = h.next + 1 := by simp [Heap.app, Heap.next]; omega

theorem HR.alloc (H : HR n0 w0 ρ h w) (hf : ρ h.next = none) {mm : Bool} {cs : List AVal} {C : Array Value} (e : TypeId) {fz : Nat × Nat} (hz : fine C.size fz)
    (hc : ∀ (i : Nat) v, cs[i]? = some v → ∃ v', C[i]? = some v' ∧ VR n0 ρ v v') :
    HR n0 w0 (ρ.put h.next ⟨w.heap.size, 0, C.size, false⟩) (h.new mm cs) (w.alloc (.cells C e fz)) ∧ St n0 ρ h w (ρ.put h.next ⟨w.heap.size, 0, C.size, false⟩) (h.new mm cs) (w.alloc (.cells C e fz)) :=
  H.allocG hf e hz hc rfl (next_new' h mm cs) (Heap.get_new h mm cs) (fun j _ => Heap.cls_new h mm cs j) fun j _ _ z => (Heap.spent_new h mm cs j).trans z

theorem HR.allocN (H : HR n0 w0 ρ h w) (hf : ρ h.next = none) {cs : List AVal} {C : Array Value} (e : TypeId) {fz : Nat × Nat} (hz : fine C.size fz)
    (hc : ∀ (i : Nat) v, cs[i]? = some v → ∃ v', C[i]? = some v' ∧ VR n0 ρ v v') :
    HR n0 w0 (ρ.put h.next ⟨w.heap.size, 0, C.size, false⟩) (h.newG cs) (w.alloc (.cells C e fz)) ∧ St n0 ρ h w (ρ.put h.next ⟨w.heap.size, 0, C.size, false⟩) (h.newG cs) (w.alloc (.cells C e fz)) :=
  H.allocG hf e hz hc rfl (next_newG' h cs) (Heap.get_newG h cs) (fun j k => by rw [Heap.cls_newG, if_neg (by omega)]) fun j k1 k z => by rw [Heap.spent_newG h cs (by rw [H.hn]; exact k1), if_neg (by omega)]; exact z

theorem HR.allocA (H : HR n0 w0 ρ h w) (hf : ρ h.next = none) {cs : List AVal} {C : Array Value} (e : TypeId) {fz : Nat × Nat} (hz : fine C.size fz)
    (hc : ∀ (i : Nat) v, cs[i]? = some v → ∃ v', C[i]? = some v' ∧ VR n0 ρ v v') {r b : Nat} (hb : n0 ≤ b) {ds : List AVal} (hr : h.cls b = some r) (hx : h.only r = false) (hg : h.get b = some ds) :
    HR n0 w0 (ρ.put h.next ⟨w.heap.size, 0, C.size, false⟩) (h.app r b cs) (w.alloc (.cells C e fz)) ∧ St n0 ρ h w (ρ.put h.next ⟨w.heap.size, 0, C.size, false⟩) (h.app r b cs) (w.alloc (.cells C e fz)) := by
  have hb' : h.n0 ≤ b := by rw [H.hn]; exact hb
  refine H.allocG hf e hz hc (h' := h.app r b cs) rfl (next_app' h r b cs) (Heap.get_app h cs hb' hr (Heap.up_of_get hb' hg) hx) (fun j k => by rw [Heap.cls_app h cs hr, if_neg (by omega)]) fun j k1 k z => ?_
  rw [Heap.spent_app h cs hb' (by rw [H.hn]; exact k1), if_neg (by omega)]
  split
  · rfl
  · exact z

/-! ### Cells are read -/

theorem addr_add (b off i : Nat) : (⟨b, off, none⟩ : Addr).add i = ⟨b, off + i, none⟩ := by unfold Addr.add; split <;> simp_all

theorem HR.at (H : HR n0 w0 ρ h w) {b off : Nat} {cs : List AVal} {a : Addr} (e : h.get b = some cs) (ha : tr n0 ρ b off = some a) (i : Nat) {v : AVal} (hv : cs[off + i]? = some v) :
    ∃ v', w.cell? (a.add i) = some v' ∧ VR n0 ρ v v' := by
  unfold tr at ha
  by_cases hb : b < n0
  · rw [if_pos hb] at ha; cases ha
    obtain ⟨C, e', fz, h1, h2⟩ := H.base b cs hb e
    obtain ⟨v', h3, h4⟩ := h2 _ _ hv
    exact ⟨v', by rw [addr_add]; simp [World.cell?, h1, h3], h4⟩
  · rw [if_neg hb] at ha
    obtain ⟨l, C, e', fz, h1, _, h3, _, _, h6⟩ := H.new b cs (by omega) e
    rw [h1] at ha
    have hm : l.mp = false := by
      cases q : l.mp with
      | false => rfl
      | true => simp [q] at ha
    simp only [hm, Bool.false_eq_true, if_false] at ha
    cases ha
    have h3 := h3.cells hm
    obtain ⟨v', h7, h8⟩ := h6 _ _ hv
    refine ⟨v', ?_, h8⟩
    rw [addr_add]
    simp only [World.cell?, h3, Option.isSome_none, Bool.false_eq_true, if_false]
    rw [Nat.add_assoc]; exact h7

theorem HR.cell (H : HR n0 w0 ρ h w) {b off : Nat} {v : AVal} {a : Addr} (e : h.cell b off = some v) (ha : tr n0 ρ b off = some a) : ∃ v', w.cell? a = some v' ∧ VR n0 ρ v v' := by
  unfold Heap.cell at e
  split at e
  · rename_i cs hcs
    obtain ⟨v', h1, h2⟩ := H.at hcs ha 0 (by simpa using e)
    exact ⟨v', by simpa [Addr.add] using h1, h2⟩
  · cases e

theorem cells_eq {h : Heap} {b off n : Nat} {cs : List AVal} (e : h.cells b off n = some cs) : ∃ ds, h.get b = some ds ∧ off + n ≤ ds.length ∧ cs = (ds.drop off).take n := by
  unfold Heap.cells at e
  split at e
  · rename_i ds hds
    split at e
    · rename_i hl; cases e; exact ⟨ds, hds, hl, rfl⟩
    · cases e
  · cases e

theorem cells_length {h : Heap} {b off n : Nat} {cs : List AVal} (e : h.cells b off n = some cs) : cs.length = n := by
  obtain ⟨ds, _, hl, rfl⟩ := cells_eq e
  simp; omega

theorem exists_list {α β : Type} {R : α → β → Prop} : ∀ (cs : List α), (f : Nat → β → Prop) → (∀ (i : Nat) v, cs[i]? = some v → ∃ v', f i v' ∧ R v v') →
    ∃ ds : List β, ds.length = cs.length ∧ (∀ (i : Nat) v', ds[i]? = some v' → f i v') ∧ ∀ (i : Nat) v v', cs[i]? = some v → ds[i]? = some v' → R v v'
  | [], f, _ => ⟨[], rfl, by simp, by simp⟩
  | c :: r, f, h => by
    obtain ⟨v', h1, h2⟩ := h 0 c rfl
    obtain ⟨ds, a, b, d⟩ := exists_list (R := R) r (fun i => f (i + 1)) (fun i v hi => h (i + 1) v (by simpa using hi))
    refine ⟨v' :: ds, by simp [a], fun i u hi => ?_, fun i v u hi hu => ?_⟩
    · cases i with
      | zero => simp at hi; subst hi; exact h1
      | succ i => exact b i u (by simpa using hi)
    · cases i with
      | zero => simp at hi hu; subst hi; subst hu; exact h2
      | succ i => exact d i v u (by simpa using hi) (by simpa using hu)

theorem HR.cells (H : HR n0 w0 ρ h w) {b off n : Nat} {cs : List AVal} {a : Addr} (e : h.cells b off n = some cs) (ha : tr n0 ρ b off = some a) :
    ∃ cs' : List Value, cs'.length = n ∧ VRs n0 ρ cs cs' ∧ ∀ (j : Nat) v, cs'[j]? = some v → w.cell? (a.add j) = some v := by
  have hlen := cells_length e
  obtain ⟨ds, hds, hl, rfl⟩ := cells_eq e
  obtain ⟨cs', h1, h2, h3⟩ := exists_list (R := VR n0 ρ) ((ds.drop off).take n) (fun i v' => w.cell? (a.add i) = some v') (fun i v hi => by
    have : ds[off + i]? = some v := by
      rw [List.getElem?_take] at hi
      split at hi
      · rw [List.getElem?_drop] at hi; exact hi
      · cases hi
    exact H.at hds ha i this)
  exact ⟨cs', by omega, VRs.of_get (by omega) h3, h2⟩

/-! ### Cells are written -/

def setBlk (w : World) (g : Nat) (o : Obj) : World := { w with heap := w.heap.setIfInBounds g o }

theorem run_store_list (P : Program) (g off : Nat) (e : TypeId) (fz : Nat × Nat) : ∀ (vs : List Value) (i : Nat) (C : Array Value) (w : World), w.heap[g]? = some (.cells C e fz) →
    off + i + vs.length ≤ C.size → fine C.size fz → (∀ v ∈ vs, v.oneCell' = true) →
    ∃ C', (storeCells ⟨g, off, none⟩ vs i).run P w = .ok () (setBlk w g (.cells C' e fz)) ∧ C'.size = C.size ∧ ∀ j, C'[j]? = if off + i ≤ j ∧ j < off + i + vs.length then vs[j - (off + i)]? else C[j]?
  | [], i, C, w, hg, _, _, _ => by
    refine ⟨C, ?_, rfl, fun j => ?_⟩
    · simp only [storeCells]
      have : setBlk w g (.cells C e fz) = w := by
        unfold setBlk
        have : w.heap.setIfInBounds g (.cells C e fz) = w.heap := by
          apply Array.ext_getElem?
          intro j
          rw [Array.getElem?_setIfInBounds]
          split
          · rename_i k; subst k; rw [hg, if_pos (Array.getElem?_eq_some_iff.1 hg).1]
          · rfl
        rw [this]
      rw [this]; rfl
    · rw [if_neg (by rw [List.length_nil]; omega)]
  | v :: rest, i, C, w, hg, hl, hf, h1 => by
    have hi : off + i < C.size := by simp at hl; omega
    have hcell : w.cell? ⟨g, off + i, none⟩ = some C[off + i] := by simp [World.cell?, hg, hi]
    have hfro : w.frozen? ⟨g, off + i, none⟩ = false := by
      simp only [World.frozen?, hg]
      unfold fine at hf
      simp only [Bool.and_eq_false_iff, decide_eq_false_iff_not]
      omega
    have hset : w.setCell ⟨g, off + i, none⟩ v = setBlk w g (.cells (C.setIfInBounds (off + i) v) e fz) := by
      unfold World.setCell setBlk
      congr 1
      apply Array.ext_getElem?
      intro j
      rw [Array.getElem?_modify, Array.getElem?_setIfInBounds]
      by_cases hj : g = j
      · subst hj; rw [if_pos rfl, if_pos rfl, hg, if_pos (Array.getElem?_eq_some_iff.1 hg).1]; rfl
      · rw [if_neg hj, if_neg hj]
    have hst : (store ((⟨g, off, none⟩ : Addr).add i) v).run P w = .ok () (setBlk w g (.cells (C.setIfInBounds (off + i) v) e fz)) := by
      rw [addr_add, run_store P w _ v _ (h1 v (by simp)), hcell]
      simp [hfro, hset]
    have hg' : (setBlk w g (.cells (C.setIfInBounds (off + i) v) e fz)).heap[g]? = some (.cells (C.setIfInBounds (off + i) v) e fz) := by
      simp [setBlk, (Array.getElem?_eq_some_iff.1 hg).1]
    obtain ⟨C', r1, r2, r3⟩ := run_store_list P g off e fz rest (i + 1) (C.setIfInBounds (off + i) v) _ hg' (by simp at hl ⊢; omega) (by simpa using hf) (fun x hx => h1 x (by simp [hx]))
    refine ⟨C', ?_, by simpa using r2, fun j => ?_⟩
    · simp only [storeCells, Sem.run_bind, hst, Result.andThen_ok, r1]
      congr 1
      simp [setBlk]
    · rw [r3 j]
      simp only [List.length_cons]
      by_cases hj : off + i = j
      · subst hj
        rw [if_neg (by omega), if_pos (by omega)]
        simp [hi]
      · by_cases hj2 : off + (i + 1) ≤ j ∧ j < off + (i + 1) + rest.length
        · rw [if_pos hj2, if_pos (by omega)]
          rw [show j - (off + i) = (j - (off + (i + 1))) + 1 by omega]
          simp
        · rw [if_neg hj2, if_neg (by omega), Array.getElem?_setIfInBounds, if_neg hj]

theorem getElem?_setBlk (w : World) (g : Nat) (o : Obj) (c : Nat) : (setBlk w g o).heap[c]? = if g = c then (if g < w.heap.size then some o else none) else w.heap[c]? := by
  simp only [setBlk, Array.getElem?_setIfInBounds]

theorem below_setBlk {B : Nat} {w0 w : World} (hb : RowKit.Below B w0 w) {g : Nat} (hg : B ≤ g) (o : Obj) : RowKit.Below B w0 (setBlk w g o) :=
  hb.trans ⟨rfl, rfl, rfl, by simp [setBlk], fun k hk => by rw [getElem?_setBlk, if_neg (by omega)]⟩

theorem VRs.get' {x : List AVal} {x' : List Value} (hx : VRs n0 ρ x x') {i : Nat} {v' : Value} (e : x'[i]? = some v') : ∃ v, x[i]? = some v ∧ VR n0 ρ v v' := by
  have hl := hx.length
  have : i < x.length := by rw [hl]; exact (List.getElem?_eq_some_iff.1 e).1
  obtain ⟨u', h1, h2⟩ := hx.get (List.getElem?_eq_getElem this)
  rw [e] at h1; cases h1
  exact ⟨_, List.getElem?_eq_getElem this, h2⟩

theorem HR.put (H : HR n0 w0 ρ h w) {b off : Nat} {vs : List AVal} {vs' : List Value} {a : Addr} (e : h.put b off vs = some h') (ha : tr n0 ρ b off = some a) (hv : VRs n0 ρ vs vs')
    (h1 : ∀ v ∈ vs', v.oneCell' = true) (P : Program) :
    ∃ w', (storeCells a vs').run P w = .ok () w' ∧ HR n0 w0 ρ h' w' ∧ St n0 ρ h w ρ h' w' := by
  obtain ⟨hb, hbx, cs, hcs, hl, rfl⟩ := Heap.put_eq e
  have hup := Heap.up_of_get hb hcs
  have hpg := fun j => Heap.get_putB h hb hbx hup (splice cs off vs) j
  have hold : ∀ x z, (h.putB b (splice cs off vs)).get x = some z → (x = b ∧ z = splice cs off vs) ∨ (x ≠ b ∧ ¬ h.mate b x ∧ h.get x = some z) := fun x z ez => by
    obtain ⟨p1, p2, p3⟩ := hpg x
    by_cases q : x = b
    · rw [p1 q] at ez; cases ez; exact .inl ⟨q, rfl⟩
    · by_cases q2 : h.mate b x
      · rw [p2 q2] at ez; cases ez
      · rw [p3 q q2] at ez; exact .inr ⟨q, q2, ez⟩
  have hcl : (h.putB b (splice cs off vs)).cls = h.cls := funext fun j => Heap.cls_putB h b _ j
  have hspn : (h.putB b (splice cs off vs)).spent = h.spent := funext fun j => Heap.spent_putB h b _ j
  have hn0' := Heap.n0_putB h b (splice cs off vs)
  have hnx' := Heap.next_putB h b (splice cs off vs)
  rw [H.hn] at hb
  have hnot : ¬ b < n0 := by omega
  obtain ⟨l, C, e', fz, g1, g2, g3, g4, g5, g6⟩ := H.new b cs hb hcs
  unfold tr at ha
  rw [if_neg hnot, g1] at ha
  have hm : l.mp = false := by
    cases q : l.mp with
    | false => rfl
    | true => simp [q] at ha
  simp only [hm, Bool.false_eq_true, if_false] at ha
  cases ha
  have g3 := g3.cells hm
  have hCl : l.shift + cs.length ≤ C.size ∨ cs = [] := by
    cases hcl : cs with
    | nil => exact .inr rfl
    | cons x r =>
      left
      obtain ⟨v', k, _⟩ := g6 (cs.length - 1) (cs[cs.length - 1]'(by rw [hcl]; simp)) (List.getElem?_eq_getElem _)
      have := (Array.getElem?_eq_some_iff.1 k).1
      rw [← hcl]
      have : 0 < cs.length := by rw [hcl]; simp
      omega
  have hvl := hv.length
  have hsz := H.below.size
  by_cases hemp : vs' = []
  · subst hemp
    have hvs : vs = [] := by simpa using hvl
    subst hvs
    have hsp : splice cs off [] = cs := by simp [splice]
    have hsub : ∀ x, (h.putB b (splice cs off [])).get x = none ∨ (h.putB b (splice cs off [])).get x = h.get x := fun x => by
      cases ez : (h.putB b (splice cs off [])).get x with
      | none => exact .inl rfl
      | some z =>
        rcases hold x z ez with ⟨q1, q2⟩ | ⟨_, _, q⟩
        · subst q1; rw [q2, hsp]; exact .inr hcs.symm
        · exact .inr q.symm
    refine ⟨w, by rfl, ?_, ?_⟩
    · exact H.sub hn0' hcl hspn hsub
    · exact St.sub hnx' hsub
  · have hfit : l.shift + off + 0 + vs'.length ≤ C.size := by
      rcases hCl with k | k
      · omega
      · subst k; simp at hl; rw [hl.2] at hvl; simp at hvl; exact absurd (List.eq_nil_of_length_eq_zero hvl.symm) hemp
    obtain ⟨C', r1, r2, r3⟩ := run_store_list P l.blk (l.shift + off) e' fz vs' 0 C w g3 hfit g4 h1
    have hlt := (Array.getElem?_eq_some_iff.1 g3).1
    refine ⟨_, r1, ⟨hn0'.trans H.hn, H.hN, ?_, ?_, ?_, below_setBlk H.below g2 _⟩, ⟨ρ.le_refl, fun _ e => .inl e, by rw [hnx']; exact Nat.le_refl _, by simp [setBlk], ?_⟩⟩
    · intro b2 cs2 hb2 eb
      rcases hold b2 cs2 eb with ⟨q, _⟩ | ⟨_, _, eb⟩
      · omega
      obtain ⟨C2, e2, fz2, k1, k2⟩ := H.base b2 cs2 hb2 eb
      have hN := H.hN
      exact ⟨C2, e2, fz2, by rw [getElem?_setBlk, if_neg (by omega)]; exact k1, k2⟩
    · intro b2 cs2 hb2 eb
      rcases hold b2 cs2 eb with ⟨q1, q2⟩ | ⟨k, nm, eb⟩
      · subst q1; subst q2
        refine ⟨l, C', e', fz, g1, g2, .inl ⟨hm, by rw [getElem?_setBlk, if_pos rfl, if_pos hlt]⟩, by rw [r2]; exact g4, by rw [r2]; exact g5, fun i v hi => ?_⟩
        rw [splice_get hl] at hi
        rw [r3]
        by_cases hc : off ≤ i ∧ i < off + vs.length
        · rw [if_pos hc] at hi
          rw [if_pos (by omega)]
          obtain ⟨v', k1, k2⟩ := hv.get hi
          exact ⟨v', by rw [show l.shift + i - (l.shift + off + 0) = i - off by omega]; exact k1, k2⟩
        · rw [if_neg hc] at hi
          rw [if_neg (by omega)]
          exact g6 i v hi
      · obtain ⟨l2, C2, e2, fz2, k1, k2, k3, k4, k5, k6⟩ := H.new b2 cs2 hb2 eb
        have hne : l.blk ≠ l2.blk := fun q => by
          rcases H.inj b2 b l2 l cs2 cs hb2 hb eb hcs k1 g1 q.symm with z | ⟨r, z1, z2, z3, z4⟩
          · exact k z
          · rcases Nat.lt_trichotomy b2 b with y | y | y
            · exact nm ⟨k, r, z2, z1, .inl y⟩
            · exact k y
            · exact nm ⟨k, r, z2, z1, .inr (z4 y).1⟩
        exact ⟨l2, C2, e2, fz2, k1, k2, k3.keep (by rw [getElem?_setBlk, if_neg hne]), k4, k5, k6⟩
    · intro b2 c2 l2 m2 x y hb2 hc2 e1 e2 e3 e4 e5
      rw [hcl, hspn]
      have key : ∀ z q, (h.putB b (splice cs off vs)).get z = some q → ∃ q', h.get z = some q' ∧ q'.length = q.length := fun z q hz => by
        rcases hold z q hz with ⟨k, k2⟩ | ⟨_, _, k⟩
        · subst k; exact ⟨_, hcs, by rw [k2, splice_length hl]⟩
        · exact ⟨_, k, rfl⟩
      obtain ⟨x', ex, lx⟩ := key _ _ e1
      obtain ⟨y', ey, ly⟩ := key _ _ e2
      rw [← lx, ← ly]
      exact H.inj b2 c2 l2 m2 x' y' hb2 hc2 ex ey e3 e4 e5
    · intro c hc k
      have hne : l.blk ≠ c := k b cs l hb hcs g1
      refine ⟨by rw [getElem?_setBlk, if_neg hne], fun b2 x l2 hb2 e1 e2 => ?_⟩
      rcases hold b2 x e1 with ⟨q, _⟩ | ⟨_, _, q⟩
      · subst q; exact k _ cs l2 hb2 hcs e2
      · exact k b2 x l2 hb2 q e2

end
end Go.Ab
