/-
  What a call's arguments are, as the abstract machine sees them.
-/
import Derived.Test.YtochkdifpgelmaaB1
import Derived.Deep.Slices
set_option linter.unusedVariables false
set_option linter.unusedSimpArgs false
namespace Go.Ab
open Go.ChangeShapes Go.WideShapes Go.ChangeAt Go.RowKit Go.Deep

section
variable {H : Type} {enc : TypeId × Value → H} {P : Program} {w : World} {b0 base : Nat} {spare : Nat → Bool} {held : Bool}

/-- A raw slice of ints. -/
structure RawInts (h : Heap) (v : AVal) (xs : List Int) : Prop where
  sl : Sl intR h v xs
  in64 : ∀ x, x ∈ xs → In64 x
  small : xs.length < 2 ^ 63
  old : ∀ c, c ∈ v.blks → c < h.n0
theorem RawInts.ext {S : List Nat} {h h' : Heap} {v : AVal} {xs : List Int} (o : RawInts h v xs) (e : Ext S h h') : RawInts h' v xs := ⟨o.sl.ext e, o.in64, o.small, by rw [e.n0]; exact o.old⟩

theorem map_flat {α : Type} (f : α → AVal) : ∀ xs : List α, (xs.map fun x => [f x]).flatten = xs.map f
  | [] => rfl
  | x :: r => by simp [map_flat f r]
theorem map_all2 {α : Type} {R : List AVal → α → Prop} (f : α → List AVal) (h : ∀ x, R (f x) x) : ∀ xs : List α, All2 R (xs.map f) xs
  | [] => trivial
  | x :: r => ⟨h x, map_all2 f h r⟩

theorem ofVs_length (n : Nat) : ∀ l : List Value, (ofVs n l).length = l.length
  | [] => rfl
  | v :: r => by simp [ofVs, ofVs_length n r]
theorem ofVs_at (n : Nat) : ∀ (l : List Value) (i : Nat), (ofVs n l)[i]? = l[i]?.map (ofV n)
  | [], i => by simp [ofVs]
  | v :: r, 0 => by simp [ofVs]
  | v :: r, i + 1 => by simp [ofVs, ofVs_at n r i]

theorem wf_int {n : Int} (h : (Lit.int .i64 n).wf = true) : In64 n := by
  simp only [Lit.wf, Bool.and_eq_true, decide_eq_true_eq] at h
  have h1 : (-9223372036854775808 : Int) ≤ n := h.1
  have h2 : n ≤ (9223372036854775807 : Int) := h.2
  exact ⟨h1, by omega⟩

theorem arg_int {t : TypeId} {v : Value} {d : DataW H} {ps : List MemPlace} (ht : P.underlying t = some (.int .i64)) (hval : Value.okWide P w .any b0 t v) (hd : DataW.Trod enc P w base spare held t v d ps) (n : Nat) :
    ∃ x, ofV n v = I x ∧ In64 x := by
  obtain ⟨x, rfl, _, _, hw⟩ := open_int ht hval hd
  exact ⟨x, rfl, wf_int hw⟩

theorem wf_byte {n : Int} (h : (Lit.int .u8 n).wf = true) : ∃ x : UInt8, n = x.toNat := by
  simp only [Lit.wf, Bool.and_eq_true, decide_eq_true_eq] at h
  have h1 : (0 : Int) ≤ n := h.1
  have h2 : n ≤ (255 : Int) := h.2
  refine ⟨UInt8.ofNat n.toNat, ?_⟩
  have e : (UInt8.ofNat n.toNat).toNat = n.toNat % 256 := UInt8.toNat_ofNat'
  omega
theorem arg_byte {t : TypeId} {v : Value} {d : DataW H} {ps : List MemPlace} (ht : P.underlying t = some (.int .u8)) (hval : Value.okWide P w .any b0 t v) (hd : DataW.Trod enc P w base spare held t v d ps) (n : Nat) :
    ∃ x : UInt8, ofV n v = .int .u8 x.toNat := by
  obtain ⟨x, rfl, _, _, hw⟩ := open_int ht hval hd
  obtain ⟨y, rfl⟩ := wf_byte hw
  exact ⟨y, rfl⟩

theorem arg_ints {t e : TypeId} {v : Value} {d : DataW H} {ps : List MemPlace} (ht : P.underlying t = some (.slice e)) (he : P.underlying e = some (.int .i64)) (hc : P.cellsOf e = 1)
    (hval : Value.okWide P w .any b0 t v) (hd : DataW.Trod enc P w base (fun _ => true) held t v d ps) : ∃ xs, RawInts (Heap.ofW w) (ofV w.heap.size v) xs := by
  obtain ⟨fuel, hf⟩ := hd
  obtain ⟨a, len, cap, rfl⟩ := okWide_slice ht hval
  rcases open_slice1 ht hc hf with ⟨h1, _⟩ | ⟨a', len', cap', m, n, V, D, Pl, h1, _, h2, h3, h4, _, h5⟩
  · simp [Value.cells] at h1
    obtain ⟨rfl, rfl, rfl⟩ := h1
    exact ⟨[], Sl.nil, by simp, by simp, fun c hc => by simp [ofV, AVal.blks] at hc⟩
  · simp [Value.cells] at h1
    obtain ⟨rfl, rfl, rfl⟩ := h1
    simp at h4
    subst h4
    simp only [Value.okWide, ht, Cell.okWide, Cell.ok] at hval
    obtain ⟨k1, k2, k3, k4, row, cells, k5, k6⟩ := hval
    obtain ⟨ab, aoff, asp⟩ := a'
    simp at k4
    subst k4
    have hsh : ∃ C el fz, w.heap[ab]? = some (.cells C el fz) ∧ C.size = cells := by
      unfold World.shape? at k5
      split at k5
      · rename_i C el fz hw
        simp at k5
        exact ⟨C, el, fz, hw, k5.2⟩
      · cases k5
    obtain ⟨C, el, fz, hw, hsz⟩ := hsh
    have hlt : ab < w.heap.size := (Array.getElem?_eq_some_iff.1 hw).1
    have hget : (Heap.ofW w).get ab = some (ofVs w.heap.size C.toList) := by
      show (if ab < w.heap.size then (match w.heap[ab]? with
        | some (.cells C _ _) => some (ofVs w.heap.size C.toList)
        | _ => none) else _) = _
      rw [if_pos hlt, hw]
    have hV : ∀ i, i < m → C.toList[aoff + i]? = some (V i) ∧ ∃ x, V i = .int .i64 x ∧ In64 x := by
      intro i hi
      obtain ⟨q1, q2⟩ := h5 i hi
      obtain ⟨x, q3, _, q4⟩ := DataW.trod_int he q2
      simp at q3
      refine ⟨?_, x, q3, wf_int q4⟩
      have q5 : C[aoff + i]? = some (V i) := by
        by_cases hz : i = 0
        · subst hz; simpa [World.cell?, Addr.add, hw] using q1
        · simpa [World.cell?, Addr.add, hw, hz] using q1
      simpa using q5
    have hx : ∀ i, ∃ x : Int, i < m → C.toList[aoff + i]? = some (.int .i64 x) ∧ In64 x := by
      intro i
      by_cases hi : i < m
      · obtain ⟨a1, x, a2, a3⟩ := hV i hi
        exact ⟨x, fun _ => ⟨a2 ▸ a1, a3⟩⟩
      · exact ⟨0, fun q => absurd q hi⟩
    obtain ⟨f, hf⟩ := Classical.axiomOfChoice hx
    have hB : (Heap.ofW w).isM ab = false := by
      unfold Heap.isM
      rw [if_neg]
      show ¬ (w.heap.size ≤ ab ∧ _)
      omega
    have hlen : ∀ i, i < len → aoff + i < C.size := fun i hi => by
      have := (Array.getElem?_eq_some_iff.1 (by simpa using (hf i (by omega)).1)).1
      exact this
    have hat : ∀ i, i < len → (ofVs w.heap.size C.toList)[aoff + i]? = some (I (f i)) := fun i hi => by
      rw [ofVs_at, (hf i (by omega)).1]; rfl
    refine ⟨(List.range len).map f, ⟨((List.range len).map f).map fun x => [I x], .inr ⟨ab, if m = 0 then 0 else aoff, m, 0, true, ofVs w.heap.size C.toList, ?_, .inl rfl, by simpa using h2, hget, hB, ?_, ?_, by simp [intR]⟩, map_all2 (R := intR.rep (Heap.ofW w)) (fun x => [I x]) (fun x => rfl) _⟩, fun x hx => ?_, by simp; have : m ≤ 2 ^ 63 - 1 := h3; omega, fun c hc => ?_⟩
    · simp [ofV, hlt, h2]
    · rw [ofVs_length]
      simp only [List.length_map, List.length_range, intR, Nat.mul_one, Array.length_toList]
      by_cases hz : len = 0
      · by_cases hm : m = 0
        · rw [if_pos hm]; omega
        · rw [if_neg hm]
          have := (Array.getElem?_eq_some_iff.1 (by simpa using (hf (m - 1) (by omega)).1)).1
          omega
      · rw [if_neg (by omega)]
        have := hlen (len - 1) (by omega)
        omega
    · simp only [List.length_map, List.length_range, intR, Nat.mul_one]
      rw [map_flat]
      apply List.ext_getElem?
      intro i
      rw [List.getElem?_take]
      by_cases hi : i < len
      · rw [if_pos hi, if_neg (by omega), List.getElem?_drop, hat i hi]
        simp [hi]
      · rw [if_neg hi, List.getElem?_eq_none (by simp; omega)]
    · simp at hx
      obtain ⟨y, hy, rfl⟩ := hx
      exact (hf y (by omega)).2
    · simp [ofV, hlt, h2, AVal.blks] at hc
      rw [hc]
      exact hlt

theorem cell_ints {t e : TypeId} {v : Value} {y : DataW H × List MemPlace} {n : Nat} (ht : P.underlying t = some (.slice e)) (he : P.underlying e = some (.int .i64)) (hc : P.cellsOf e = 1)
    (hval : Cell.okWide P w .any b0 t v) (hd : DataW.trod enc P w base (fun _ => true) held n t [v] = some y) : ∃ xs, RawInts (Heap.ofW w) (ofV w.heap.size v) xs := by
  have hv : Value.okWide P w .any b0 t v := by simp only [Value.okWide, ht]; exact hval
  obtain ⟨a, len, cap, rfl⟩ := okWide_slice ht hv
  exact arg_ints ht he hc hv (d := y.1) (ps := y.2) ⟨n, hd⟩
theorem cell_int {t : TypeId} {v : Value} {y : DataW H × List MemPlace} {n : Nat} (ht : P.underlying t = some (.int .i64)) (hval : Cell.okWide P w .any b0 t v) (hd : DataW.trod enc P w base spare held n t [v] = some y) (m : Nat) : ∃ x, ofV m v = I x ∧ In64 x := by
  have hv : Value.okWide P w .any b0 t v := by simp only [Value.okWide, ht]; exact hval
  obtain ⟨x, rfl⟩ := okWide_int ht hv
  exact arg_int ht hv (d := y.1) (ps := y.2) ⟨n, hd⟩ m
/-- The cells of a struct that is handed in. -/
theorem arg_struct {t : TypeId} {fs : Array Field} {ts : List TypeId} {v : Value} {d : DataW H} {ps : List MemPlace} (ht : P.underlying t = some (.struct fs)) (hts : P.cellTypes P.depth t = some ts) (hn : ts.length = P.cellsOf t) (hf1 : ∀ (i : Nat) (f : Field), fs[i]? = some f → f.offset = i ∧ P.cellsOf f.type = 1 ∧ ts[i]? = some f.type)
    (hval : Value.okWide P w .any b0 t v) (hd : DataW.Trod enc P w base (fun _ => true) held t v d ps) : ∃ cs : Array Value, v = .agg cs ∧ cs.size = P.cellsOf t ∧
      ∀ (i : Nat) f x, fs[i]? = some f → cs[i]? = some x → Cell.okWide P w .any b0 f.type x ∧ ∃ d' p' n, DataW.trod enc P w base (fun _ => true) held n f.type [x] = some (d', p') := by
  simp only [Value.okWide, ht] at hval
  obtain ⟨cs, rfl, h1, ts', h2, _, h3⟩ := hval
  rw [hts] at h2
  cases h2
  obtain ⟨fuel, hd⟩ := hd
  obtain ⟨xs, n, _, _, _, h5, h6⟩ := DataW.trod_struct ht hd
  refine ⟨cs, rfl, h1, fun i f x hf hx => ?_⟩
  obtain ⟨f1, f2, f3⟩ := hf1 i f hf
  have hi : i < cs.size := (Array.getElem?_eq_some_iff.1 hx).1
  obtain ⟨u, u1, u2⟩ := h3 i x hx
  rw [Nat.mod_eq_of_lt (by omega), f3] at u1
  cases u1
  refine ⟨u2, ?_⟩
  have := h6 i f hf
  have hxs : i < xs.length := by rw [h5]; exact (Array.getElem?_eq_some_iff.1 hf).1
  rw [List.getElem?_eq_getElem hxs, f1, f2] at this
  have htk : ((Value.agg cs).cells.toList.drop i).take 1 = [x] := by
    show (cs.toList.drop i).take 1 = [x]
    rw [List.drop_eq_getElem_cons (by simpa using hi)]
    have : cs.toList[i]'(by simpa using hi) = x := by
      have := (Array.getElem?_eq_some_iff.1 hx).2
      simpa using this
    rw [this]
    rfl
  rw [htk] at this
  exact ⟨_, _, n, this⟩

end
end Go.Ab
