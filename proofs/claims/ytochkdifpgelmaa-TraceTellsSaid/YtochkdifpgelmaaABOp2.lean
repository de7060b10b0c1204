/-
  The abstract machine: operations that build, convert, compute.
-/
import Derived.Test.YtochkdifpgelmaaABOp
import Derived.Laws.BytesString
set_option linter.unusedVariables false
set_option linter.unusedSimpArgs false
namespace Go.Ab

theorem foldl_zip (off : Nat) : ∀ (l : List Value) (k : Nat) (C : Array Value), off + k + l.length ≤ C.size →
    ((l.zipIdx k).foldl (fun cs (p : Value × Nat) => cs.setIfInBounds (off + p.2) p.1) C).size = C.size ∧
    ∀ i, ((l.zipIdx k).foldl (fun cs (p : Value × Nat) => cs.setIfInBounds (off + p.2) p.1) C)[i]? = if off + k ≤ i ∧ i < off + k + l.length then l[i - (off + k)]? else C[i]?
  | [], k, C, _ => by
    refine ⟨rfl, fun i => ?_⟩
    rw [if_neg (by rw [List.length_nil]; omega)]; rfl
  | v :: r, k, C, h => by
    simp only [List.length_cons] at h
    have hs : (C.setIfInBounds (off + k) v).size = C.size := by simp
    obtain ⟨h1, h2⟩ := foldl_zip off r (k + 1) (C.setIfInBounds (off + k) v) (by omega)
    simp only [List.zipIdx_cons, List.foldl_cons]
    refine ⟨by rw [h1]; simp, fun i => ?_⟩
    rw [h2 i]
    simp only [List.length_cons]
    by_cases hj : off + k = i
    · subst hj
      rw [if_neg (by omega), if_pos (by omega), Array.getElem?_setIfInBounds, if_pos rfl, if_pos (by omega), Nat.sub_self]
      rfl
    · by_cases hj2 : off + (k + 1) ≤ i ∧ i < off + (k + 1) + r.length
      · rw [if_pos hj2, if_pos (by omega), show i - (off + k) = (i - (off + (k + 1))) + 1 by omega]
        simp
      · rw [if_neg hj2, if_neg (by omega), Array.getElem?_setIfInBounds, if_neg hj]

theorem zeros_length (z : List AVal) : ∀ n, (zeros z n).length = n * z.length
  | 0 => by simp [zeros]
  | n + 1 => by simp [zeros, zeros_length z n, Nat.add_mul, Nat.add_comm]

theorem zeros_get (z : List AVal) : ∀ (n j : Nat), j < n * z.length → (zeros z n)[j]? = z[j % z.length]?
  | 0, j, h => by simp at h
  | n + 1, j, h => by
    simp only [zeros]
    by_cases hj : j < z.length
    · rw [List.getElem?_append_left hj, Nat.mod_eq_of_lt hj]
    · rw [List.getElem?_append_right (by omega), zeros_get z n (j - z.length) (by rw [Nat.add_mul] at h; omega), ← Nat.mod_eq_sub_mod (by omega)]

section
variable {n0 : Nat} {w0 : World} {ρ : Ren} {h : Heap} {w : World} {P : Program}

theorem splice_ok {cs vs : List AVal} {C : Array Value} {vs' : List Value} {off : Nat} (hc : VRs n0 ρ cs C.toList) (hv : VRs n0 ρ vs vs') (hl : off + vs.length ≤ cs.length)
    {D : Array Value} (hs : D.size = C.size) (hD : ∀ i : Nat, D[i]? = if off ≤ i ∧ i < off + vs'.length then vs'[i - off]? else C[i]?) : VRs n0 ρ (splice cs off vs) D.toList := by
  have h1 := hc.length
  have h2 := hv.length
  refine VRs.of_get (by rw [splice_length hl]; simp at h1 ⊢; omega) fun i v v' e e' => ?_
  rw [splice_get hl] at e
  rw [Array.getElem?_toList, hD] at e'
  rw [← h2] at e'
  split at e
  · rename_i k
    rw [if_pos k] at e'
    obtain ⟨u, a, b⟩ := hv.get e
    rw [a] at e'; cases e'; exact b
  · rename_i k
    rw [if_neg k] at e'
    obtain ⟨u, a, b⟩ := hc.get e
    rw [Array.getElem?_toList, e'] at a; cases a; exact b

/-- Parts, side by side. -/
inductive VRp (n0 : Nat) (ρ : Ren) : List (Nat × AVal) → List (Nat × Value) → Prop where
  | nil : VRp n0 ρ [] []
  | cons {i : Nat} {v : AVal} {v' : Value} {r : List (Nat × AVal)} {r' : List (Nat × Value)} : VR n0 ρ v v' → VRp n0 ρ r r' → VRp n0 ρ ((i, v) :: r) ((i, v') :: r')

theorem VRp.map {e : Operand → AVal} {e' : Operand → Value} (he : ∀ x, VR n0 ρ (e x) (e' x)) : ∀ l : List (Nat × Operand), VRp n0 ρ (l.map fun (i, x) => (i, e x)) (l.map fun (i, x) => (i, e' x))
  | [] => .nil
  | (i, x) :: r => .cons (he x) (VRp.map he r)

theorem VRs.map {e : Operand → AVal} {e' : Operand → Value} (he : ∀ x, VR n0 ρ (e x) (e' x)) : ∀ l : List Operand, VRs n0 ρ (l.map e) (l.map e')
  | [] => .nil
  | x :: r => .cons (he x) (VRs.map he r)

theorem fill_ok {pl pl' : Nat → Option (Nat × Nat)} (hp : ∀ i, pl' i = pl i) {parts : List (Nat × AVal)} {parts' : List (Nat × Value)} (hv : VRp n0 ρ parts parts') :
    ∀ {cs ds : List AVal} {C : Array Value}, VRs n0 ρ cs C.toList → aFill pl cs parts = some ds → ∃ D, Instr.fill pl' C parts' = some D ∧ VRs n0 ρ ds D.toList := by
  induction hv with
  | nil => intro cs ds C hc e; simp only [aFill, Option.some.injEq] at e; subst e; exact ⟨C, rfl, hc⟩
  | @cons i v v' r r' hv _ ih =>
    intro cs ds C hc e
    simp only [aFill] at e
    simp only [Instr.fill, hp]
    split at e
    · cases e
    · rename_i off size hpl
      split at e
      · rename_i hk
        obtain ⟨hk, hsz, hl⟩ := hk
        have hvc := hv.cells (known_ne hk)
        have l1 := hvc.length
        have l2 := hc.length
        simp only [Array.length_toList] at l1 l2
        rw [hpl]
        simp only
        rw [if_neg (by simp; omega)]
        have hz := foldl_zip off v'.cells.toList 0 C (by simp; omega)
        have heq : Array.foldl (fun cs (x : Value × Nat) => cs.setIfInBounds (off + x.2) x.1) C v'.cells.zipIdx = (v'.cells.toList.zipIdx 0).foldl (fun cs (p : Value × Nat) => cs.setIfInBounds (off + p.2) p.1) C := by
          rw [← Array.foldl_toList, Array.toList_zipIdx]
        refine ih (splice_ok hc hvc hl (D := Array.foldl (fun cs (x : Value × Nat) => cs.setIfInBounds (off + x.2) x.1) C v'.cells.zipIdx) ?_ ?_) e
        · rw [heq]; exact hz.1
        · intro i; rw [heq, hz.2 i]; simp
      · cases e

theorem places_ok : ∀ {l : List Field} {ps : List (Nat × Nat)}, aPlaces P l = some ps → ∀ w, (l.mapM fun f => (Prod.mk f.offset <$> sizeOf f.type : Sem (Nat × Nat))).run P w = .ok ps w
  | [], ps, e, w => by simp only [aPlaces, Option.some.injEq] at e; subst e; rfl
  | f :: r, ps, e, w => by
    simp only [aPlaces] at e
    split at e
    · rename_i n l hn hl
      cases e
      simp [List.mapM_cons, run_size hn, places_ok hl]
    · cases e

theorem zero_cells {t : TypeId} {z : AVal} (e : tZero P t = some z) : ∃ v, (∀ w, (zeroValue t).run P w = .ok v w) ∧ VRs n0 ρ z.cells v.cells.toList := by
  obtain ⟨i, v, hi, hv, hz, hk⟩ := tZero_eq e
  refine ⟨v, fun w => by simp [zeroValue, run_info hi, hv], ?_⟩
  have : VR n0 ρ z v := by rw [hz]; exact ofV0 v
  exact this.cells (known_ne hk)

theorem build_ok {t : TypeId} {parts : List (Nat × AVal)} {parts' : List (Nat × Value)} {v : AVal} (e : aBuild P t parts = some v) (hv : VRp n0 ρ parts parts') (w : World) :
    ∃ v', (Instr.build t parts'.toArray).run P w = .ok v' w ∧ VR n0 ρ v v' := by
  unfold aBuild at e
  split at e
  · rename_i fields z hu hz
    obtain ⟨zv, hz1, hz2⟩ := zero_cells (n0 := n0) (ρ := ρ) hz
    split at e
    · rename_i ps hps
      split at e
      · rename_i cs hcs
        cases e
        obtain ⟨D, h1, h2⟩ := fill_ok (pl' := (ps[·]?)) (fun i => rfl) hv hz2 hcs
        refine ⟨.agg D, ?_, ?_⟩
        · simp [Instr.build, hz1 w, run_under hu, Array.mapM_eq_mapM_toList, places_ok hps, h1]
        · have := VR.agg h2; simpa using this
      · cases e
    · cases e
  · rename_i len elem z hu hz
    obtain ⟨zv, hz1, hz2⟩ := zero_cells (n0 := n0) (ρ := ρ) hz
    split at e
    · rename_i n hn
      split at e
      · rename_i cs hcs
        cases e
        obtain ⟨D, h1, h2⟩ := fill_ok (pl' := fun i => some (i * n, n)) (fun i => rfl) hv hz2 hcs
        refine ⟨.agg D, ?_, ?_⟩
        · simp [Instr.build, hz1 w, run_under hu, run_size hn, h1]
        · have := VR.agg h2; simpa using this
      · cases e
    · cases e
  · cases e

theorem zeros_ok {z : List AVal} {Z : Array Value} (hz : VRs n0 ρ z Z.toList) (n : Nat) : VRs n0 ρ (zeros z n) ((Array.range (n * z.length)).map (Z[· % Z.size]!)).toList := by
  have hl := hz.length
  simp only [Array.length_toList] at hl
  refine VRs.of_get (by rw [zeros_length]; simp) fun i v v' e e' => ?_
  have hi : i < n * z.length := by rw [← zeros_length]; exact (List.getElem?_eq_some_iff.1 e).1
  have hp : 0 < z.length := by
    rcases Nat.eq_zero_or_pos z.length with k | k
    · rw [k] at hi; simp at hi
    · exact k
  rw [zeros_get z n i hi] at e
  rw [Array.getElem?_toList, Array.getElem?_map, Array.getElem?_range, if_pos hi] at e'
  simp only [Option.map_some, Option.some.injEq] at e'
  have hm : i % Z.size < Z.size := Nat.mod_lt _ (by omega)
  rw [getElem!_pos Z (i % Z.size) hm] at e'
  obtain ⟨u, a, b⟩ := hz.get e
  rw [Array.getElem?_toList, hl, Array.getElem?_eq_getElem hm] at a
  cases a; subst e'; exact b

/-- What an operation that tells v, and leaves h', asks of the model. -/
def Does (n0 : Nat) (w0 : World) (P : Program) (ρ : Ren) (h : Heap) (w : World) (s : Sem Value) (v : AVal) (h' : Heap) : Prop :=
  ∃ ρ' w' v', s.run P w = .ok v' w' ∧ VR n0 ρ' v v' ∧ HR n0 w0 ρ' h' w' ∧ St n0 ρ h w ρ' h' w'

theorem Does.same {s : Sem Value} {v : AVal} (H : HR n0 w0 ρ h w) (k : ∃ v', s.run P w = .ok v' w ∧ VR n0 ρ v v') : Does n0 w0 P ρ h w s v h :=
  let ⟨v', a, b⟩ := k; ⟨ρ, w, v', a, b, H, St.refl⟩

theorem at_list {cs : List AVal} {C : Array Value} (k : VRs n0 ρ cs C.toList) : ∀ (i : Nat) v, cs[i]? = some v → ∃ v', C[i]? = some v' ∧ VR n0 ρ v v' := fun i v e => by
  obtain ⟨v', a, b⟩ := k.get e
  exact ⟨v', by simpa using a, b⟩

theorem put_ptr {H : HR n0 w0 ρ h w} (l : RLoc) (b off : Nat) (hb : b = h.next) (hm : l.mp = false := by rfl) : tr n0 (ρ.put h.next l) b off = some ⟨l.blk, l.shift + off, none⟩ := by
  subst hb
  refine tr_of ?_ (if_pos rfl) hm
  have := H.hn; simp only [Heap.next]; omega

theorem alloc_ok {t : TypeId} {z : AVal} (e : tZero P t = some z) (H : HR n0 w0 ρ h w) (hf : ρ h.next = none) : Does n0 w0 P ρ h w (Instr.alloc t true (.tuple #[])) (.ptr h.next 0) (h.new true z.cells) := by
  obtain ⟨zv, hz1, hz2⟩ := zero_cells (n0 := n0) (ρ := ρ) e
  obtain ⟨h1, h2⟩ := H.alloc hf t (fz := (0, 0)) (.inr (Nat.le_refl 0)) (at_list hz2)
  refine ⟨_, _, .pointer (some ⟨w.heap.size, 0, none⟩), ?_, .ptr (put_ptr (H := H) _ _ _ rfl), h1, h2⟩
  simp [Instr.alloc, hz1 w, newVar, newRow]

theorem box_ok {t : TypeId} {x : AVal} {x' : Value} (hk : x.known = true) (hx : VR n0 ρ x x') (H : HR n0 w0 ρ h w) (hf : ρ h.next = none) : Does n0 w0 P ρ h w (Instr.box t x') (.ptr h.next 0) (h.new true x.cells) := by
  obtain ⟨h1, h2⟩ := H.alloc hf t (fz := (0, 0)) (.inr (Nat.le_refl 0)) (at_list (hx.cells (known_ne hk)))
  refine ⟨_, _, .pointer (some ⟨w.heap.size, 0, none⟩), ?_, .ptr (put_ptr (H := H) _ _ _ rfl), h1, h2⟩
  simp [Instr.box, newVar, newRow]

theorem buildSlice_ok {t : TypeId} {len : Nat} {parts : List (Nat × AVal)} {parts' : List (Nat × Value)} {v : AVal} {h' : Heap} (e : aBuildSlice P h t len parts = .val v h') (hv : VRp n0 ρ parts parts')
    (H : HR n0 w0 ρ h w) (hf : h.next < h'.next → ρ h.next = none) : Does n0 w0 P ρ h w (Instr.buildSlice t len parts'.toArray) v h' := by
  unfold aBuildSlice at e
  split at e
  · rename_i elem hu
    split at e
    · rename_i n z hn hz
      split at e
      · rename_i hlim
        split at e
        · rename_i cs hcs
          cases e
          have hf' := hf (by simp [Heap.new, Heap.newG, Heap.next])
          obtain ⟨zv, hz1, hz2⟩ := zero_cells (n0 := n0) (ρ := ρ) hz
          have hzl := hz2.length
          have hzs := zeros_ok hz2 len
          rw [hlim.2] at hzs
          obtain ⟨D, d1, d2⟩ := fill_ok (pl' := fun i => some (i * n, n)) (fun i => rfl) hv hzs hcs
          obtain ⟨h1, h2⟩ := H.alloc hf' elem (fz := (0, 0)) (.inr (Nat.le_refl 0)) (at_list d2)
          refine ⟨_, _, .slice (some ⟨w.heap.size, 0, none⟩) len len, ?_, .slx (put_ptr (H := H) _ _ _ rfl) (.inr rfl) (Nat.le_refl _), h1, h2⟩
          by_cases k : len * n = 0
          · have hr : ∀ f : Nat → Value, (Array.range (len * n)).map f = #[] := fun f => by apply Array.ext'; simp [k]
            rw [hr] at d1
            simp only [Instr.buildSlice, Sem.run_bind, run_under hu, run_size hn, Result.andThen_ok, hr, d1, newRow]
            rw [if_neg (by omega)]
            simp [k]
          · have hlim' : ¬ (16777216 < len * n) := by have := hlim.1; omega
            have hk2 : ¬ (len = 0 ∨ n = 0) := fun q => k (Nat.mul_eq_zero.2 q)
            simp [Instr.buildSlice, run_under hu, run_size hn, hlim', hk2, hz1 w, d1, newRow]
            intro q; exact absurd q k
        · cases e
      · cases e
    · cases e
  · cases e

theorem make_ok {t : TypeId} {l c v : AVal} {l' c' : Value} {h' : Heap} (e : aMake P h t l c = .val v h') (hl : VR n0 ρ l l') (hc : VR n0 ρ c c')
    (H : HR n0 w0 ρ h w) (hf : h.next < h'.next → ρ h.next = none) : Does n0 w0 P ρ h w (Instr.makeSlice t l' c') v h' := by
  unfold aMake at e
  split at e
  · rename_i elem k1 li k2 ci hu
    split at e
    · rename_i i z hi hz
      split at e
      · rename_i hlim
        cases e; cases hl; cases hc
        obtain ⟨h0, hlc, hc40, hb, hzl⟩ := hlim
        have hf' := hf (by simp [Heap.new, Heap.newG, Heap.next])
        obtain ⟨i2, zv, hi2, hzv, hzeq, hzk⟩ := tZero_eq hz
        rw [hi] at hi2; cases hi2
        have hz2 : VRs n0 ρ z.cells zv.cells.toList := VR.cells (by rw [hzeq]; exact ofV0 zv) (known_ne hzk)
        have hzs := zeros_ok hz2 ci.toNat
        rw [hzl] at hzs
        have hrun := run_make (P := P) w t elem i zv hu hi hzv k1 k2 li ci h0 hlc (by rw [Int.mul_comm]; exact Int.le_trans hb (by decide)) (by exact Int.le_trans hc40 (by decide))
        obtain ⟨h1, h2⟩ := H.alloc hf' elem (C := madeCells zv.cells (ci.toNat * i.size)) (fz := (0, 0)) (.inr (Nat.le_refl 0)) (at_list hzs)
        exact ⟨_, _, _, hrun, .slx (put_ptr (H := H) _ _ _ rfl) (.inr rfl) (by omega), h1, h2⟩
      · cases e
    · cases e
  · cases e

theorem bytes_ok : ∀ {cs : List AVal} {l : List UInt8} {cs' : List Value}, aBytes cs = some l → VRs n0 ρ cs cs' → ∃ ns : List Int, cs' = ns.map (Value.int .u8) ∧ l = ns.map fun n => UInt8.ofNat n.toNat
  | [], l, cs', e, k => by cases k; simp only [aBytes, Option.some.injEq] at e; subst e; exact ⟨[], rfl, rfl⟩
  | c :: r, l, cs', e, k => by
    cases k with
    | cons a b =>
      unfold aBytes at e
      split at e
      · rename_i hnil; cases hnil
      · rename_i n r2 heq
        cases heq
        split at e
        · rename_i l2 hl2
          cases e; cases a
          obtain ⟨ns, h1, h2⟩ := bytes_ok hl2 b
          exact ⟨n :: ns, by rw [h1]; rfl, by rw [h2]; rfl⟩
        · cases e
      · cases e

theorem foldl_push (l : List Int) (s : ByteArray) : l.foldl (fun r n => r.push (UInt8.ofNat n.toNat)) s = ⟨s.data ++ (l.map fun n => UInt8.ofNat n.toNat).toArray⟩ := by
  induction l generalizing s with
  | nil => simp
  | cons n r ih =>
    simp only [List.foldl_cons, ih, List.map_cons]
    congr 1
    apply Array.ext'
    simp [ByteArray.push]

theorem conv_ok {src dst : TypeId} {x v : AVal} {x' : Value} {h' : Heap} (e : aConv P h src dst x = .val v h') (hx : VR n0 ρ x x')
    (H : HR n0 w0 ρ h w) (hf : h.next < h'.next → ρ h.next = none) : Does n0 w0 P ρ h w (convert src dst x') v h' := by
  unfold aConv at e
  split at e
  · split at e
    · rename_i u hu
      split at e
      · rename_i r hr
        cases e
        rw [toV_eq hu hx]
        exact .same H ⟨r, aPure_run hr w, ofV0 r⟩
      · cases e
    · cases e
  · rename_i hck
    split at e
    · rename_i s
      cases e; cases hx
      have hk : ∃ el, P.underlying src = some .string ∧ P.underlying dst = some (.slice el) ∧ P.underlying el = some (.int .u8) := by
        unfold convKind at hck
        split at hck
        · rename_i el h1 h2
          split at hck
          · rename_i h3; exact ⟨el, h1, h2, h3⟩
          · cases hck
        · split at hck <;> cases hck
        · cases hck
      obtain ⟨el, u1, u2, u3⟩ := hk
      have hf' := hf (by simp [Heap.new, Heap.newG, Heap.next])
      have hcap := grownCap_ge w s.size 0 el
      have hD : VRs n0 ρ (strCells s) (s.data.map fun b => Value.int .u8 b.toNat).toList := by
        refine VRs.of_get (by simp [strCells]) fun i v v' a b => ?_
        simp only [strCells, Array.toList_map, List.getElem?_map, Option.map_eq_some_iff] at a b
        obtain ⟨x, hx1, rfl⟩ := a
        obtain ⟨y, hy1, rfl⟩ := b
        rw [hx1] at hy1; cases hy1; exact .int _ _
      generalize hC : (s.data.map fun b => Value.int .u8 b.toNat) ++ Array.replicate (grownCap w s.size 0 el - s.size) (Value.int .u8 0) = C
      have hCs : C.size = grownCap w s.size 0 el := by rw [← hC]; simp; have : s.data.size = s.size := rfl; omega
      have hat : ∀ (i : Nat) v, (strCells s)[i]? = some v → ∃ v', C[i]? = some v' ∧ VR n0 ρ v v' := fun i v hi => by
        obtain ⟨v', a, b⟩ := hD.get hi
        rw [Array.getElem?_toList] at a
        exact ⟨v', by rw [← hC, Array.getElem?_append_left (Array.getElem?_eq_some_iff.1 a).1]; exact a, b⟩
      obtain ⟨h1, h2⟩ := H.drew.allocN (w := w.drew) hf' el (C := C) (fz := (C.size, C.size + 1)) (.inl (Nat.le_refl _)) hat
      refine ⟨_, _, .slice (some ⟨w.heap.size, 0, none⟩) s.size (grownCap w s.size 0 el), ?_, ?_, h1, St.drew.trans h2⟩
      · have hr : (Conv.stringToBytes el s).run P w = .ok (.slice (some ⟨w.heap.size, 0, none⟩) s.size (grownCap w s.size 0 el)) (w.drew.alloc (.cells C el (C.size, C.size + 1))) := by
          simp only [Conv.stringToBytes, Sem.run_bind, run_choose, Question.forced, Bool.false_eq_true, if_false, Result.andThen_ok, newRow, run_newObj, Sem.run_pure, markStringish, run_shape, World.drew_eq, World.alloc_eq]
          have hg : (Question.appendCap s.size 0 el).cut (w.tape w.drawn (.appendCap s.size 0 el)) = grownCap w s.size 0 el := rfl
          rw [hg, hC]
          have hsh : (w.drew.alloc (.cells C el)).shape? w.drew.heap.size = some (el, C.size) := by
            have hpush : (w.drew.heap.push (.cells C el))[w.drew.heap.size]? = some (.cells C el) := Array.getElem?_push_size
            show (match (w.drew.heap.push (.cells C el))[w.drew.heap.size]? with | some (.cells c e _) => some (e, c.size) | _ => none) = _
            rw [hpush]
          rw [hsh]
          simp only [run_freeze, Result.andThen_ok, Sem.run_pure]
          congr 1
          unfold World.freeze
          rw [if_neg (by omega)]
          unfold World.alloc
          congr 1
          apply Array.ext_getElem?
          intro j
          rw [Array.getElem?_modify, Array.getElem?_push, Array.getElem?_push]
          by_cases hj : w.drew.heap.size = j
          · subst hj; simp
          · rw [if_neg hj]
            by_cases hj2 : j = w.drew.heap.size
            · exact absurd hj2.symm hj
            · rw [if_neg hj2, if_neg hj2]
        simp only [convert, Sem.run_bind, run_under u1, run_under u2, Result.andThen_ok, run_under u3]
        exact hr
      · have hn : n0 ≤ h.next := by have := H.hn; simp only [Heap.next]; omega
        refine .slg hn (if_pos rfl) rfl (.inr ⟨rfl, ?_⟩) hcap (Nat.le_refl _)
        simp [hCs]
    · cases e
  · rename_i hck
    have hk : ∃ el, P.underlying src = some (.slice el) ∧ P.underlying dst = some .string ∧ P.underlying el = some (.int .u8) := by
      unfold convKind at hck
      split at hck
      · split at hck <;> cases hck
      · rename_i el h1 h2
        split at hck
        · rename_i h3; exact ⟨el, h1, h2, h3⟩
        · cases hck
      · cases hck
    obtain ⟨el, u1, u2, u3⟩ := hk
    split at e
    · cases e; cases hx
      refine .same H ⟨.string .empty, ?_, .str _⟩
      rw [run_convert_bytes_string w src dst el none 0 0 u1 u3 u2]
      rfl
    · rename_i b off len cap sz ex
      split at e
      · rename_i cs hcs
        split at e
        · rename_i l hl
          cases e
          refine .same H ?_
          by_cases hpos : 0 < len
          · obtain ⟨a, cap', ha, rfl⟩ := sl_addr hx hpos
            obtain ⟨cs', k1, k2, k3⟩ := H.cells hcs ha
            obtain ⟨ns, rfl, rfl⟩ := bytes_ok hl k2
            have hld := run_loadCells_list (P := P) w a _ k3
            rw [k1] at hld
            refine ⟨_, ?_, .str _⟩
            rw [run_convert_bytes_string w src dst el _ _ _ u1 u3 u2, run_bytesToString w a len cap' ns hld, foldl_push]
            congr 2
            simp
          · have : len = 0 := by omega
            subst this
            obtain ⟨a, cap', rfl, _⟩ := sl_form hx
            have hnil : cs = [] := List.eq_nil_of_length_eq_zero (cells_length hcs)
            subst hnil
            simp only [aBytes, Option.some.injEq] at hl
            subst hl
            refine ⟨_, ?_, .str _⟩
            rw [run_convert_bytes_string w src dst el _ _ _ u1 u3 u2, run_bytesToString w a 0 cap' [] (by simp [loadCells, loadCellsFrom])]
            rfl
        · cases e
      · cases e
    · cases e

end
end Go.Ab
