/-
  What a call's arguments are: rows of anything.
-/
import Derived.Test.YtochkdifpgelmaaRow0
set_option linter.unusedVariables false
set_option linter.unusedSimpArgs false
namespace Go.Ab
open Go.ChangeShapes Go.WideShapes Go.ChangeAt Go.RowKit Go.Deep

/-- A slice, or an empty one whose row may be none. -/
def SlZ {α : Type} (r : Rp α) (h : Heap) (v : AVal) (xs : List α) : Prop := Sl r h v xs ∨ (xs = [] ∧ ∃ b sz, v = .sl b 0 0 0 sz true)
section
variable {α : Type} {r : Rp α} {S : List Nat} {h0 h h' : Heap} {v : AVal} {xs ys : List α}
theorem SlZ.ext (o : SlZ r h v xs) (e : Ext S h h') : SlZ r h' v xs := o.imp (fun k => k.ext e) id
theorem SlZ.len (o : SlZ r h v xs) : lenL v = some (I xs.length) := by
  rcases o with o | ⟨rfl, b, sz, rfl⟩
  · exact o.len
  · simp
theorem SlZ.one (o : SlZ r h v xs) : v.one = true := by
  rcases o with o | ⟨rfl, b, sz, rfl⟩
  · exact o.one
  · rfl
theorem SlZ.known (o : SlZ r h v xs) : v.known = true := by
  rcases o with o | ⟨rfl, b, sz, rfl⟩
  · exact o.known
  · rfl
theorem SlZ.cells (o : SlZ r h v xs) : v.cells = [v] := by
  rcases o with o | ⟨rfl, b, sz, rfl⟩
  · exact o.cells
  · rfl
theorem SlZ.sl (o : SlZ r h v xs) (hx : 0 < xs.length) : Sl r h v xs := by
  rcases o with o | ⟨rfl, _⟩
  · exact o
  · simp at hx
theorem SlZ.src (o : SlZ r h v xs) : ∃ dss : List (List AVal), aSource h r.n false v = some (dss.length, dss.flatten) ∧ All2 (r.rep h) dss xs := by
  rcases o with o | ⟨rfl, b, sz, rfl⟩
  · exact o.src
  · exact ⟨[], by simp [aSource], trivial⟩
theorem SlZ.takeR {n : Nat} (o : SlZ r h v xs) (hn : r.n = n) {hi : Nat} (h2 : hi ≤ xs.length) : ∃ v', slcR n v none (some (.int .i64 hi)) none = some v' ∧ SlZ r h v' (xs.take hi) ∧ v'.blks = v.blks := by
  rcases o with o | ⟨rfl, b, sz, rfl⟩
  · obtain ⟨v', q1, q2, q3⟩ := o.takeR hn h2
    exact ⟨v', q1, .inl q2, q3⟩
  · have : hi = 0 := by simpa using h2
    subst this
    exact ⟨.sl b 0 0 0 sz true, by simp [slcR, aBoundO, aBound], .inr ⟨rfl, b, sz, rfl⟩, rfl⟩
/-- append(s, ys...) -/
theorem Gl.appNZ {s x : AVal} {n by_ : Nat} (g : Gl r h0 h s xs) (o : SlZ r h x ys) (hn : r.n = n) (hl : xs.length + ys.length ≤ 2 ^ 34) (hby : by_ ≤ 2 ^ 12) (hle : h0.next ≤ h.next) :
    ∃ s' h', appR n by_ h s x = .val s' h' ∧ Gl r h0 h' s' (xs ++ ys) ∧ Ext s.blks h h' ∧ (∀ S, Ext S h0 h → Ext S h0 h') ∧ (∀ b, b ∈ s'.blks → b ∈ s.blks ∨ b = h.next) := by
  obtain ⟨⟨css, g1, g2⟩, g3⟩ := g
  obtain ⟨dss, o1, o2⟩ := o.src
  obtain ⟨d1, d2⟩ := reps_all o2
  have l1 := g2.len
  have l2 := o2.len
  obtain ⟨s', h', q1, q2, q3, q4, q5, q6⟩ := app_ok (by_ := by_) r.pos g1 g3 o1 d1 d2 (by omega) hby hle
  subst hn
  exact ⟨s', h', q1, ⟨⟨css ++ dss, q2, (g2.imp fun _ _ k => r.ext k q4).app (o2.imp fun _ _ k => r.ext k q4)⟩, q3⟩, q4, q5, q6⟩
end

section
variable {H : Type} {enc : TypeId × Value → H} {P : Program} {w : World} {b0 base : Nat} {spare : Nat → Bool} {held : Bool}

theorem ofVs_take (n : Nat) : ∀ (k : Nat) (l : List Value), ofVs n (l.take k) = (ofVs n l).take k
  | 0, l => by simp [ofVs]
  | k + 1, [] => by simp [ofVs]
  | k + 1, v :: r => by simp [ofVs, ofVs_take n k r]
theorem ofVs_drop (n : Nat) : ∀ (k : Nat) (l : List Value), ofVs n (l.drop k) = (ofVs n l).drop k
  | 0, l => by simp
  | k + 1, [] => by simp [ofVs]
  | k + 1, v :: r => by simp [ofVs, ofVs_drop n k r]

/-- What is read at every step of a row. -/
theorem chunks {α : Type} {R : List AVal → α → Prop} {n : Nat} {L : List AVal} : ∀ (len : Nat), (∀ i, i < len → ∃ c x, (L.drop (i * n)).take n = c ∧ c.length = n ∧ R c x) → len * n ≤ L.length →
    ∃ (css : List (List AVal)) (xs : List α), css.length = len ∧ (∀ c, c ∈ css → c.length = n) ∧ L.take (len * n) = css.flatten ∧ All2 R css xs
  | 0, _, _ => ⟨[], [], rfl, by simp, by simp, trivial⟩
  | len + 1, k, hl => by
    rw [Nat.add_mul, Nat.one_mul] at hl
    obtain ⟨css, xs, q1, q2, q3, q4⟩ := chunks len (fun i hi => k i (by omega)) (by omega)
    obtain ⟨c, x, p1, p2, p3⟩ := k len (by omega)
    refine ⟨css ++ [c], xs ++ [x], by simp [q1], fun d hd => ?_, ?_, q4.app ⟨p3, trivial⟩⟩
    · rcases List.mem_append.1 hd with z | z
      · exact q2 d z
      · simp at z; rw [z]; exact p2
    · rw [Nat.add_mul, Nat.one_mul, List.take_add, q3, p1]
      simp

/-- A slice that is read, whose elements are read as r's. -/
theorem read_slice {α : Type} (R : Rp α) {Good : α → Prop} {t e : TypeId} (ht : P.underlying t = some (.slice e)) (hc : P.cellsOf e = R.n) (hw0 : 0 < w.heap.size)
    (rd : ∀ n cs y, cs.length = R.n → DataW.trod enc P w base (fun _ => true) held n e cs = some y → ∃ x, R.rep (Heap.ofW w) (ofVs w.heap.size cs) x ∧ Good x)
    {n : Nat} {cs : List Value} {y : DataW H × List MemPlace} (h : DataW.trod enc P w base (fun _ => true) held n t cs = some y) :
    ∃ v xs, cs = [v] ∧ SlZ R (Heap.ofW w) (ofV w.heap.size v) xs ∧ (∀ x, x ∈ xs → Good x) ∧ xs.length < 2 ^ 63 ∧ ∀ c, c ∈ (ofV w.heap.size v).blks → c < w.heap.size := by
  rcases open_slice ht h with ⟨rfl, _⟩ | ⟨a, len, cap, m, n', D, Pl, rfl, hb, hl, hm, hmm, _, hx⟩
  · exact ⟨_, [], rfl, .inl (by simpa [ofV] using (Sl.nil (r := R))), by simp, by simp, fun c hc => by simp [ofV, AVal.blks] at hc⟩
  · simp only [if_true] at hmm
    subst hmm
    obtain ⟨ab, aoff, asp⟩ := a
    by_cases hz : m = 0
    · subst hz
      have hl0 : len = 0 := by omega
      subst hl0
      refine ⟨_, [], rfl, .inr ⟨rfl, ?_⟩, by simp, by simp, ?_⟩
      · cases asp with
        | none => by_cases q : ab < w.heap.size <;> simp [ofV, q, hw0]
        | some s => simp [ofV, hw0]
      · cases asp with
        | none => by_cases q : ab < w.heap.size <;> simp [ofV, q, hw0, AVal.blks]
        | some s => simp [ofV, hw0, AVal.blks]
    · -- the row
      have hRn := R.pos
      have cell : ∀ i, i < m → ∃ cs' x, cs'.length = R.n ∧ (∀ j, j < R.n → w.cell? ((⟨ab, aoff, asp⟩ : Addr).add (i * R.n) |>.add j) = cs'[j]?) ∧ R.rep (Heap.ofW w) (ofVs w.heap.size cs') x ∧ Good x := fun i hi => by
        obtain ⟨cs', h1, h2⟩ := hx i hi
        rw [hc] at h1
        obtain ⟨_, hlen, hcell⟩ := World.cells?_some h1
        obtain ⟨x, hr, hg⟩ := rd n' cs' _ hlen h2
        exact ⟨cs', x, hlen, hcell, hr, hg⟩
      obtain ⟨cs0, x0, l0, k0, _⟩ := cell 0 (by omega)
      have c0 := k0 0 hRn
      rw [Nat.zero_mul] at c0
      simp only [Addr.add, if_true] at c0
      rw [List.getElem?_eq_getElem (by omega)] at c0
      obtain ⟨C, el, fz, hw, hsp⟩ : ∃ C el fz, w.heap[ab]? = some (.cells C el fz) ∧ asp = none := by
        unfold World.cell? at c0
        split at c0
        · rename_i C el fz hw
          split at c0
          · cases c0
          · rename_i q
            exact ⟨C, el, fz, hw, by simpa using q⟩
        · cases c0
      subst hsp
      have hlt : ab < w.heap.size := (Array.getElem?_eq_some_iff.1 hw).1
      have hget : (Heap.ofW w).get ab = some (ofVs w.heap.size C.toList) := by
        show (if ab < w.heap.size then (match w.heap[ab]? with
          | some (.cells C _ _) => some (ofVs w.heap.size C.toList)
          | _ => none) else _) = _
        rw [if_pos hlt, hw]
      have hB : (Heap.ofW w).isM ab = false := by
        unfold Heap.isM
        rw [if_neg]
        show ¬ (w.heap.size ≤ ab ∧ _)
        omega
      have at_ : ∀ i, i < m → ∃ cs' x, cs'.length = R.n ∧ (∀ j, j < R.n → C.toList[aoff + i * R.n + j]? = cs'[j]?) ∧ R.rep (Heap.ofW w) (ofVs w.heap.size cs') x ∧ Good x := fun i hi => by
        obtain ⟨cs', x, q1, q2, q3⟩ := cell i hi
        refine ⟨cs', x, q1, fun j hj => ?_, q3⟩
        rw [← q2 j hj]
        have e : (((⟨ab, aoff, none⟩ : Addr).add (i * R.n)).add j) = ⟨ab, aoff + i * R.n + j, none⟩ := by
          unfold Addr.add
          by_cases h1 : i * R.n = 0 <;> by_cases h2 : j = 0 <;> simp [h1, h2]
        rw [e]
        simp [World.cell?, hw]
      have hsize : aoff + m * R.n ≤ C.toList.length := by
        obtain ⟨cs', x, q1, q2, _⟩ := at_ (m - 1) (by omega)
        have := q2 (R.n - 1) (by omega)
        rw [List.getElem?_eq_getElem (by omega : R.n - 1 < cs'.length)] at this
        have := (List.getElem?_eq_some_iff.1 this).1
        have e : (m - 1) * R.n + R.n = m * R.n := by
          have : m = (m - 1) + 1 := by omega
          rw [this, Nat.add_mul, Nat.one_mul]; simp
        omega
      have hch : ∀ i, i < len → ∃ c x, (((ofVs w.heap.size C.toList).drop aoff).drop (i * R.n)).take R.n = c ∧ c.length = R.n ∧ (R.rep (Heap.ofW w) c x ∧ Good x) := fun i hi => by
        obtain ⟨cs', x, q1, q2, q3, q4⟩ := at_ i (by omega)
        refine ⟨ofVs w.heap.size cs', x, ?_, by rw [ofVs_length]; exact q1, q3, q4⟩
        apply List.ext_getElem?
        intro j
        rw [List.getElem?_take]
        by_cases hj : j < R.n
        · rw [if_pos hj, List.getElem?_drop, List.getElem?_drop, ofVs_at, ofVs_at, ← q2 j hj]
          congr 2
          omega
        · rw [if_neg hj, List.getElem?_eq_none (by rw [ofVs_length]; omega)]
      have hle : len * R.n ≤ m * R.n := Nat.mul_le_mul_right _ hl
      obtain ⟨css, xs, p1, p2, p3, p4⟩ := chunks (R := fun c x => R.rep (Heap.ofW w) c x ∧ Good x) (L := (ofVs w.heap.size C.toList).drop aoff) len hch (by rw [List.length_drop, ofVs_length]; omega)
      have hxl : xs.length = len := by rw [← p1, p4.len]
      refine ⟨_, xs, rfl, .inl ⟨css, .inr ⟨ab, aoff, m, 0, true, ofVs w.heap.size C.toList, ?_, .inl rfl, by omega, hget, hB, ?_, ?_, p2⟩, p4.imp fun _ _ k => k.1⟩, ?_, ?_, fun c hc => ?_⟩
      · simp [ofV, hlt, hl, hz, p1]
      · rw [ofVs_length, p1]; omega
      · rw [p1]; exact p3
      · intro x hx
        obtain ⟨i, hi⟩ := List.mem_iff_getElem?.1 hx
        obtain ⟨c, _, k⟩ := p4.at hi
        exact k.2
      · have : m ≤ 2 ^ 63 - 1 := hm
        omega
      · simp [ofV, hlt, hl, AVal.blks] at hc
        rw [hc]
        exact hlt

/-- A struct that is read. -/
theorem read_struct {t : TypeId} (L : List (TypeId × Nat × Nat)) (hf : ∃ fs, P.underlying t = some (.struct fs) ∧ ∀ i, i < L.length → ∃ f, fs[i]? = some f ∧ L[i]? = some (f.type, f.offset, P.cellsOf f.type))
    {n : Nat} {cs : List Value} {y : DataW H × List MemPlace} (h : DataW.trod enc P w base spare held n t cs = some y) : cs.length = P.cellsOf t ∧ ∀ (i : Nat) u off sz, L[i]? = some (u, off, sz) → ∃ n' y', DataW.trod enc P w base spare held n' u ((cs.drop off).take sz) = some y' := by
  obtain ⟨fs, ht, hL⟩ := hf
  obtain ⟨xs, n', _, _, hl, hxs, hx⟩ := DataW.trod_struct ht h
  refine ⟨hl, fun i u off sz hi => ?_⟩
  obtain ⟨f, k1, k2⟩ := hL i (List.getElem?_eq_some_iff.1 hi).1
  rw [hi] at k2
  cases k2
  have := hx i f k1
  rw [List.getElem?_eq_getElem (by rw [hxs]; exact (Array.getElem?_eq_some_iff.1 k1).1)] at this
  exact ⟨_, _, this⟩

theorem read_int {t : TypeId} {n : Nat} {v : Value} {y : DataW H × List MemPlace} (ht : P.underlying t = some (.int .i64)) (h : DataW.trod enc P w base spare held n t [v] = some y) (m : Nat) : ∃ x, ofV m v = I x ∧ In64 x := by
  obtain ⟨x, q1, _, q3⟩ := DataW.trod_int ht h
  cases q1
  exact ⟨x, rfl, wf_int q3⟩
theorem read_byte {t : TypeId} {n : Nat} {v : Value} {y : DataW H × List MemPlace} (ht : P.underlying t = some (.int .u8)) (h : DataW.trod enc P w base spare held n t [v] = some y) (m : Nat) : ∃ x : UInt8, ofV m v = .int .u8 x.toNat := by
  obtain ⟨x, q1, _, q3⟩ := DataW.trod_int ht h
  cases q1
  obtain ⟨b, rfl⟩ := wf_byte q3
  exact ⟨b, rfl⟩
theorem len1 {l : List Value} (h : l.length = 1) : ∃ a, l = [a] := by
  match l, h with
  | [a], _ => exact ⟨a, rfl⟩
theorem read_bytes {t e : TypeId} {n : Nat} {cs : List Value} {y : DataW H × List MemPlace} (ht : P.underlying t = some (.slice e)) (he : P.underlying e = some (.int .u8)) (hc : P.cellsOf e = 1) (hw0 : 0 < w.heap.size) (h : DataW.trod enc P w base (fun _ => true) held n t cs = some y) :
    ∃ v xs, cs = [v] ∧ SlZ byteR (Heap.ofW w) (ofV w.heap.size v) xs ∧ xs.length < 2 ^ 63 := by
  obtain ⟨v, xs, q1, q2, _, q3, _⟩ := read_slice byteR (Good := fun _ => True) ht hc hw0 (fun n cs y hl hy => by
    obtain ⟨a, rfl⟩ := len1 hl
    obtain ⟨b, hb⟩ := read_byte he hy w.heap.size
    exact ⟨b, by simp [ofVs, hb, byteR], trivial⟩) h
  exact ⟨v, xs, q1, q2, q3⟩
/-- There is memory, where a slice that is not nil is right. -/
theorem heap_pos {t e : TypeId} {v : Value} (ht : P.underlying t = some (.slice e)) (hval : Value.okWide P w .any b0 t v) : v = .slice none 0 0 ∨ 0 < w.heap.size := by
  obtain ⟨a, len, cap, rfl⟩ := okWide_slice ht hval
  simp only [Value.okWide, ht, Cell.okWide] at hval
  cases a with
  | none =>
    left
    unfold Cell.ok at hval
    rw [ht] at hval
    split at hval <;> simp_all
  | some a =>
    right
    simp only [Cell.ok, ht] at hval
    obtain ⟨k1, k2, k3, k4, row, cells, k5, k6⟩ := hval
    unfold World.shape? at k5
    split at k5
    · rename_i C el fz hw
      have := (Array.getElem?_eq_some_iff.1 hw).1
      omega
    · cases k5
end
/-- What an argument of a type is, as the abstract machine sees it. -/
def Reads (P : Program) (t : TypeId) (R : Heap → AVal → Prop) : Prop := ∀ {H : Type} (enc : TypeId × Value → H) (W : World) (b0 base : Nat) (v : Value) (d : DataW H) (ps : List MemPlace), Value.okWide P W .any b0 t v → DataW.Trod enc P W base (fun _ => true) true t v d ps → R (Heap.ofW W) (ofV W.heap.size v)

/-- .. a slice. -/
theorem reads_slice {P : Program} {α : Type} (R : Rp α) {Good : α → Prop} {t e : TypeId} (ht : P.underlying t = some (.slice e)) (hc : P.cellsOf e = R.n)
    (rd : ∀ {H : Type} (enc : TypeId × Value → H) (w : World), 0 < w.heap.size → ∀ base n cs y, cs.length = R.n → DataW.trod enc P w base (fun _ => true) true n e cs = some y → ∃ x, R.rep (Heap.ofW w) (ofVs w.heap.size cs) x ∧ Good x) :
    Reads P t fun h a => ∃ xs, SlZ R h a xs ∧ (∀ x, x ∈ xs → Good x) ∧ xs.length < 2 ^ 63 ∧ ∀ c, c ∈ a.blks → c < h.n0 := by
  intro H enc w b0 base v d ps hval hd
  rcases heap_pos ht hval with rfl | hw0
  · exact ⟨[], .inl (by simpa [ofV] using (Sl.nil (r := R))), by simp, by simp, fun c hc => by simp [ofV, AVal.blks] at hc⟩
  · obtain ⟨fuel, hf⟩ := hd
    obtain ⟨a, len, cap, rfl⟩ := okWide_slice ht hval
    obtain ⟨v', xs, q1, q2, q3, q4, q5⟩ := read_slice R (Good := Good) ht hc hw0 (fun n cs y hl hy => rd enc w hw0 base n cs y hl hy) hf
    simp [Value.cells] at q1
    subst q1
    exact ⟨xs, q2, q3, q4, q5⟩
/-- .. and its row is there, be it empty. -/
theorem reads_sliceS {P : Program} {α : Type} (R : Rp α) {Good : α → Prop} {t e : TypeId} (ht : P.underlying t = some (.slice e)) (hc : P.cellsOf e = R.n)
    (rd : ∀ {H : Type} (enc : TypeId × Value → H) (w : World), 0 < w.heap.size → ∀ base n cs y, cs.length = R.n → DataW.trod enc P w base (fun _ => true) true n e cs = some y → ∃ x, R.rep (Heap.ofW w) (ofVs w.heap.size cs) x ∧ Good x) :
    Reads P t fun h a => ∃ xs, Sl R h a xs ∧ (∀ x, x ∈ xs → Good x) ∧ xs.length < 2 ^ 63 ∧ ∀ c, c ∈ a.blks → c < h.n0 := by
  intro H enc w b0 base v d ps hval hd
  obtain ⟨xs, q1, q2, q3, q4⟩ := reads_slice R (Good := Good) ht hc rd enc w b0 base v d ps hval hd
  refine ⟨xs, ?_, q2, q3, q4⟩
  rcases q1 with q1 | ⟨rfl, b, sz, e⟩
  · exact q1
  · obtain ⟨a, len, cap, rfl⟩ := okWide_slice ht hval
    simp only [Value.okWide, ht, Cell.okWide] at hval
    cases a with
    | none =>
      unfold Cell.ok at hval
      rw [ht] at hval
      split at hval <;> simp_all
      · simp [ofV] at e
    | some a =>
      simp only [Cell.ok, ht] at hval
      obtain ⟨k1, k2, k3, k4, row, cells, k5, k6⟩ := hval
      obtain ⟨ab, aoff, asp⟩ := a
      simp at k4
      subst k4
      unfold World.shape? at k5
      split at k5
      · rename_i C el fz hw
        have hlt : ab < w.heap.size := (Array.getElem?_eq_some_iff.1 hw).1
        have hget : (Heap.ofW w).get ab = some (ofVs w.heap.size C.toList) := by
          show (if ab < w.heap.size then (match w.heap[ab]? with
            | some (.cells C _ _) => some (ofVs w.heap.size C.toList)
            | _ => none) else _) = _
          rw [if_pos hlt, hw]
        have hB : (Heap.ofW w).isM ab = false := by
          unfold Heap.isM
          rw [if_neg]
          show ¬ (w.heap.size ≤ ab ∧ _)
          omega
        simp [ofV, hlt, k1] at e
        obtain ⟨rfl, _, rfl, rfl, rfl⟩ := e
        exact ⟨[], .inr ⟨ab, 0, 0, 0, true, _, by simp [ofV, hlt], .inl rfl, by simp, hget, hB, by simp, by simp, by simp⟩, trivial⟩
      · cases k5
theorem reads_str {P : Program} {t : TypeId} (ht : P.underlying t = some .string) : Reads P t fun h a => ∃ s : ByteArray, a = .str s ∧ s.size < 2 ^ 63 := by
  intro H enc w b0 base v d ps hval hd
  obtain ⟨s, rfl⟩ := okWide_string ht hval
  refine ⟨s, rfl, ?_⟩
  simp only [Value.okWide, ht, Cell.okWide, Cell.ok] at hval
  have : (s.size : Int) ≤ 9223372036854775807 := hval
  omega
theorem reads_flt {P : Program} {t : TypeId} (ht : P.underlying t = some (.float .f64)) : Reads P t fun h a => ∃ x : Nat, a = .flt .f64 x ∧ x < 18446744073709551616 := by
  intro H enc w b0 base v d ps hval hd
  simp only [Value.okWide, ht] at hval
  cases v with
  | float k' b =>
    simp only [Cell.okWide, Cell.ok, ht] at hval
    obtain ⟨rfl, hb⟩ := hval
    refine ⟨b, rfl, ?_⟩
    have : b < 2 ^ 64 := hb
    omega
  | _ => exact absurd hval (by simp [Cell.okWide, Cell.ok, ht])
theorem reads_u64 {P : Program} {t : TypeId} (ht : P.underlying t = some (.int .u64)) : Reads P t fun h a => ∃ x : Nat, a = .int .u64 x ∧ x < 18446744073709551616 := by
  intro H enc w b0 base v d ps hval hd
  obtain ⟨x, rfl, _, _, hw⟩ := open_int ht hval hd
  simp only [Lit.wf, Bool.and_eq_true, decide_eq_true_eq] at hw
  have h1 : (0 : Int) ≤ x := hw.1
  have h2 : x ≤ (18446744073709551615 : Int) := hw.2
  exact ⟨x.toNat, by show AVal.int .u64 x = _; rw [Int.toNat_of_nonneg h1], by omega⟩
end Go.Ab
