/-
  The abstract machine: append, copy, comparisons; every operation.
-/
import Derived.Test.YtochkdifpgelmaaABOp2
set_option linter.unusedVariables false
set_option linter.unusedSimpArgs false
namespace Go.Ab

section
variable {n0 : Nat} {w0 : World} {ρ : Ren} {h : Heap} {w : World} {P : Program}

/-- The cells of a slice, read in any world that has w's cells. -/
theorem reads_ok {b off len cap sz n : Nat} {ex : Bool} {cs : List AVal} {x' : Value} (e : h.cells b off (len * n) = some cs) (hx : VR n0 ρ (.sl b off len cap sz ex) x') (H : HR n0 w0 ρ h w) (k : Nat)
    (hk : k ≤ len) :
    ∃ cs' : List Value, VRs n0 ρ (cs.take (k * n)) cs' ∧ cs'.length = k * n ∧ ∀ w2 : World, (∀ a, w2.cell? a = w.cell? a) → (Builtin.firstCells n k x').run P w2 = .ok cs'.toArray w2 := by
  have hlen := cells_length e
  by_cases hpos : 0 < len
  · obtain ⟨a, cap', ha, rfl⟩ := sl_addr hx hpos
    obtain ⟨cs', h1, h2, h3⟩ := H.cells e ha
    have hkn : k * n ≤ len * n := Nat.mul_le_mul_right _ hk
    refine ⟨cs'.take (k * n), h2.take _, by simp; omega, fun w2 hw => ?_⟩
    refine run_firstCells_some w2 n k a len cap' _ (by simp; omega) fun j v hj => ?_
    rw [hw]
    rw [List.getElem?_take] at hj
    split at hj
    · exact h3 j v hj
    · cases hj
  · have hl0 : len = 0 := by omega
    have hk0 : k = 0 := by omega
    subst hk0
    obtain ⟨a, cap', rfl, _⟩ := sl_form hx
    refine ⟨[], by rw [Nat.zero_mul]; exact .nil, by simp, fun w2 _ => ?_⟩
    simp [Builtin.firstCells, loadCells, loadCellsFrom]

theorem source_ok {n m : Nat} {x : AVal} {x' : Value} {new : List AVal} (e : aSource h n false x = some (m, new)) (hx : VR n0 ρ x x') (H : HR n0 w0 ρ h w) :
    ∃ new' : List Value, VRs n0 ρ new new' ∧ new'.length = m * n ∧ (∀ w2 : World, (Builtin.lenOf x').run P w2 = .ok m w2) ∧
      ∀ w2 : World, (∀ a, w2.cell? a = w.cell? a) → (Builtin.firstCells n m x').run P w2 = .ok new'.toArray w2 := by
  unfold aSource at e
  simp only [Bool.false_eq_true, if_false] at e
  split at e
  · rename_i b off len cap sz ex
    split at e
    · rename_i hz; subst hz; cases e
      obtain ⟨a, cap', rfl, _⟩ := sl_form hx
      exact ⟨[], .nil, by simp, fun w2 => rfl, fun w2 _ => by simp [Builtin.firstCells, loadCells, loadCellsFrom]⟩
    split at e
    · rename_i cs hcs
      cases e
      obtain ⟨cs', h1, h2, h3⟩ := reads_ok (P := P) hcs hx H m (Nat.le_refl _)
      have hlen := cells_length hcs
      rw [List.take_of_length_le (by omega)] at h1
      obtain ⟨a, cap', rfl, _⟩ := sl_form hx
      exact ⟨cs', h1, h2, fun w2 => rfl, h3⟩
    · cases e
  · cases e; cases hx
    exact ⟨[], .nil, by simp, fun w2 => rfl, fun w2 _ => by simp [Builtin.firstCells]⟩
  · rename_i s
    split at e
    · rename_i hn; subst hn
      cases e; cases hx
      refine ⟨s.data.toList.map fun b => Value.int .u8 b.toNat, ?_, by simp, fun w2 => rfl, fun w2 _ => ?_⟩
      · refine VRs.of_get (by simp [strCells]) fun i v v' a b => ?_
        simp only [strCells, List.getElem?_map, Option.map_eq_some_iff] at a b
        obtain ⟨x, hx1, rfl⟩ := a
        obtain ⟨y, hy1, rfl⟩ := b
        rw [hx1] at hy1; cases hy1; exact .int _ _
      · have : s.extract 0 s.size = s := by simp
        simp only [Builtin.firstCells, this, Sem.run_pure]
        congr 1
        apply Array.ext'
        simp
    · cases e
  · cases e

/-- What 'append' comes to where there is room. -/
theorem append_room {sT xT ty elem : TypeId} {d : TypeDesc} {n m len cap : Nat} {base : Option Addr} {x' : Value} {new' : List Value} {w' : World}
    (hs : P.underlying sT = some (.slice elem)) (hn : tSize P elem = some n) (hx : P.underlying xT = some d) (hi : tIntB P xT = false)
    (hlen : ∀ w2 : World, (Builtin.lenOf x').run P w2 = .ok m w2) (hnew : (Builtin.firstCells n m x').run P w = .ok new'.toArray w) (hroom : len + m ≤ cap)
    (hst : match base with | some a => (storeCells (a.add (len * n)) new').run P w = .ok () w' | none => w' = w) :
    (Builtin.append_ #[sT, xT] ty #[.slice base len cap, x']).run P w = .ok (.slice base (len + m) cap) w' := by
  have hne : ∀ k, d ≠ .int k := fun k q => by subst q; unfold tIntB at hi; rw [hx] at hi; cases hi
  have hz : (match (generalizing := false) d with | .int _ => true | _ => false) = false := by
    cases d <;> first | rfl | exact absurd rfl (hne _)
  cases base with
  | none => subst hst; simp [Builtin.append_, run_under hs, run_under hx, run_size hn, hz, hlen, hroom, hnew]
  | some a => simp only at hst; simp [Builtin.append_, run_under hs, run_under hx, run_size hn, hz, hlen, hroom, hnew, hst]

/-- What 'append' comes to where there is none. -/
theorem append_grow {sT xT ty elem : TypeId} {d : TypeDesc} {i : TypeInfo} {z : Value} {m len cap : Nat} {base : Option Addr} {x' : Value} {old' new' : List Value}
    (hs : P.underlying sT = some (.slice elem)) (hinf : P.info? elem = some i) (hz : i.zero = some z) (hx : P.underlying xT = some d) (hi : tIntB P xT = false)
    (hlen : ∀ w2 : World, (Builtin.lenOf x').run P w2 = .ok m w2) (hnew : (Builtin.firstCells i.size m x').run P w.drew = .ok new'.toArray w.drew)
    (hold : (Builtin.firstCells i.size len (.slice base len cap)).run P w.drew = .ok old'.toArray w.drew) (hroom : cap < len + m) (h40 : len + m ≤ 2 ^ 40) (hb : (len + m) * i.bytes ≤ 2 ^ 46) :
    (Builtin.append_ #[sT, xT] ty #[.slice base len cap, x']).run P w =
      .ok (.slice (some ⟨w.heap.size, 0, none⟩) (len + m) (grownCap w (len + m) cap elem))
        (w.drew.alloc (.cells (old'.toArray ++ new'.toArray ++ Builtin.zeroCells z.cells (grownCap w (len + m) cap elem - (len + m))) elem)) := by
  have hne : ∀ k, d ≠ .int k := fun k q => by subst q; unfold tIntB at hi; rw [hx] at hi; cases hi
  have hzz : (match (generalizing := false) d with | .int _ => true | _ => false) = false := by
    cases d <;> first | rfl | exact absurd rfl (hne _)
  have hn : tSize P elem = some i.size := by unfold tSize; rw [hinf]
  have hroom' : ¬ (len + m ≤ cap) := by omega
  have h63 : ¬ (9223372036854775807 < ((len : Int) + (m : Int))) := by omega
  have hfit : ¬ (281474976710656 < Builtin.nextslicecap (len + m) cap * i.bytes) := by
    have := growslice_fits (need := len + m) (old := cap) (bytes := i.bytes) (by omega) (by omega)
    omega
  simp [Builtin.append_, run_under hs, run_under hx, run_size hn, run_info hinf, hzz, hlen, hroom', h63, hfit, Question.forced, hold, hnew, zeroValue, hz, newRow, grownCap]
  congr 2
  apply Array.ext'
  simp

theorem cell_drew (a : Addr) : w.drew.cell? a = w.cell? a := rfl

theorem next_ge (H : HR n0 w0 ρ h w) : n0 ≤ h.next := by have := H.hn; simp only [Heap.next]; omega

/-- A row made anew. -/
theorem fresh_ok {old new : List AVal} {old' new' : List Value} {z : Value} {k : Nat} (H : HR n0 w0 ρ h w) (hf : ρ h.next = none) (elem : TypeId) (ho : VRs n0 ρ old old') (hn : VRs n0 ρ new new') :
    HR n0 w0 (ρ.put h.next ⟨w.heap.size, 0, (old'.toArray ++ new'.toArray ++ Builtin.zeroCells z.cells k).size, false⟩) (h.newG (old ++ new)) (w.alloc (.cells (old'.toArray ++ new'.toArray ++ Builtin.zeroCells z.cells k) elem)) ∧
    St n0 ρ h w (ρ.put h.next ⟨w.heap.size, 0, (old'.toArray ++ new'.toArray ++ Builtin.zeroCells z.cells k).size, false⟩) (h.newG (old ++ new)) (w.alloc (.cells (old'.toArray ++ new'.toArray ++ Builtin.zeroCells z.cells k) elem)) := by
  refine H.allocN hf elem (fz := (0, 0)) (.inr (Nat.le_refl 0)) fun i v hi => ?_
  obtain ⟨v', a, b⟩ := (ho.append hn).get hi
  refine ⟨v', ?_, b⟩
  have hlt : i < (old' ++ new').length := (List.getElem?_eq_some_iff.1 a).1
  rw [Array.getElem?_append_left (by simpa using hlt)]
  simpa using a

/-- .. behind another one, of its class. -/
theorem freshA_ok {old new : List AVal} {old' new' : List Value} {z : Value} {k : Nat} (H : HR n0 w0 ρ h w) (hf : ρ h.next = none) (elem : TypeId) (ho : VRs n0 ρ old old') (hn : VRs n0 ρ new new')
    {r b : Nat} (hb : n0 ≤ b) {ds : List AVal} (hr : h.cls b = some r) (hx : h.only r = false) (hg : h.get b = some ds) :
    HR n0 w0 (ρ.put h.next ⟨w.heap.size, 0, (old'.toArray ++ new'.toArray ++ Builtin.zeroCells z.cells k).size, false⟩) (h.app r b (old ++ new)) (w.alloc (.cells (old'.toArray ++ new'.toArray ++ Builtin.zeroCells z.cells k) elem)) ∧
    St n0 ρ h w (ρ.put h.next ⟨w.heap.size, 0, (old'.toArray ++ new'.toArray ++ Builtin.zeroCells z.cells k).size, false⟩) (h.app r b (old ++ new)) (w.alloc (.cells (old'.toArray ++ new'.toArray ++ Builtin.zeroCells z.cells k) elem)) := by
  refine H.allocA hf elem (fz := (0, 0)) (.inr (Nat.le_refl 0)) (fun i v hi => ?_) hb hr hx hg
  obtain ⟨v', a, b⟩ := (ho.append hn).get hi
  refine ⟨v', ?_, b⟩
  have hlt : i < (old' ++ new').length := (List.getElem?_eq_some_iff.1 a).1
  rw [Array.getElem?_append_left (by simpa using hlt)]
  simpa using a

theorem fresh_size {n m need c : Nat} {z : Value} {old' new' : List Value} (hz : z.cells.size = n) (hl : old'.length + new'.length = need * n) (hc : need ≤ c) :
    (old'.toArray ++ new'.toArray ++ Builtin.zeroCells z.cells (c - need)).size = c * n := by
  have h1 := size_zeroCells z.cells (c - need)
  simp only [Array.size_append, List.size_toArray, h1, hz, hl]
  rw [← Nat.add_mul]
  congr 1
  omega

/-- A row that grows: the shorter one may still be read. -/
theorem taken_ok (H : HR n0 w0 ρ h w) {b off m r : Nat} {ds : List AVal} {l : RLoc} {C C' : Array Value} {ee : TypeId} {fz : Nat × Nat} (hb0 : n0 ≤ b) (hds : h.get b = some ds) (g2 : ρ b = some l)
    (hr : h.cls b = some r) (hx : h.only r = false) (hsp : h.spent b = false) (hfull : ds.length ≤ off + m)
    (q2 : w0.heap.size ≤ l.blk) (q3 : w.heap[l.blk]? = some (.cells C ee fz)) (q4 : fine C.size fz) (q5 : l.tot = C.size)
    (q6 : ∀ (i : Nat) v, ds[i]? = some v → ∃ v', C[l.shift + i]? = some v' ∧ VR n0 ρ v v') (hf : ρ h.next = none)
    {old new : List AVal} {new' : List Value} (hdc : old = (ds.drop off).take m) (n1 : VRs n0 ρ new new') (hol : old.length = m) (r2 : C'.size = C.size)
    (r3 : ∀ j : Nat, C'[j]? = if l.shift + off + m ≤ j ∧ j < l.shift + off + m + new'.length then new'[j - (l.shift + off + m)]? else C[j]?) :
    HR n0 w0 (ρ.put h.next ⟨l.blk, l.shift + off, l.tot, false⟩) (h.app r b (old ++ new)) (setBlk w l.blk (.cells C' ee fz)) ∧
    St n0 ρ h w (ρ.put h.next ⟨l.blk, l.shift + off, l.tot, false⟩) (h.app r b (old ++ new)) (setBlk w l.blk (.cells C' ee fz)) := by
  have hle := Ren.le_put hf ⟨l.blk, l.shift + off, l.tot, false⟩
  have hnl := n1.length
  have hlt := (Array.getElem?_eq_some_iff.1 q3).1
  have hge := next_ge H
  have hb' : h.n0 ≤ b := by rw [H.hn]; exact hb0
  have hbx := Heap.lt_of_get hb' hds
  have hng := Heap.get_app h (old ++ new) hb' hr (Heap.up_of_get hb' hds) hx
  have hN := H.hN
  have same : ∀ c y m2, n0 ≤ c → c ≠ b → h.get c = some y → ρ c = some m2 → m2.blk = l.blk → c < b ∧ h.cls c = some r ∧ h.spent c = true ∧ m2.shift + y.length ≤ l.shift + ds.length := by
    intro c y m2 hc hne ec em eq
    rcases H.inj c b m2 l y ds hc hb0 ec hds em g2 eq with z | ⟨r', z1, z2, z3, z4⟩
    · exact absurd z hne
    · rw [hr] at z2; cases z2
      rcases Nat.lt_trichotomy c b with k | k | k
      · exact ⟨k, z1, (z3 k).1, (z3 k).2⟩
      · exact absurd k hne
      · have := (z4 k).1; rw [hsp] at this; cases this
  have hcl : ∀ j, j < h.next → (h.app r b (old ++ new)).cls j = h.cls j := fun j k => by rw [Heap.cls_app h _ hr, if_neg (by omega)]
  have hclN : (h.app r b (old ++ new)).cls h.next = some r := by rw [Heap.cls_app h _ hr, if_pos rfl]
  have hspm : ∀ j, n0 ≤ j → j < h.next → h.spent j = true → (h.app r b (old ++ new)).spent j = true := fun j k1 k2 k3 => by
    rw [Heap.spent_app h _ hb' (by rw [H.hn]; exact k1), if_neg (by omega)]; split
    · rfl
    · exact k3
  have hspb : (h.app r b (old ++ new)).spent b = true := by rw [Heap.spent_app h _ hb' hb', if_neg (by omega), if_pos rfl]
  refine ⟨⟨H.hn, H.hN, ?_, ?_, ?_, below_setBlk H.below q2 _⟩, ⟨hle, ?_, ?_, by simp [setBlk], ?_⟩⟩
  · intro b2 cs2 hb2 eb
    rw [hng, if_neg (by omega)] at eb
    obtain ⟨C2, e2, fz2, k1, k2⟩ := H.base b2 cs2 hb2 eb
    refine ⟨C2, e2, fz2, by rw [getElem?_setBlk, if_neg (by omega)]; exact k1, fun i v hi => ?_⟩
    obtain ⟨v', a, b⟩ := k2 i v hi
    exact ⟨v', a, b.mono hle⟩
  · intro b2 cs2 hb2 eb
    rw [hng] at eb
    split at eb
    · rename_i k; subst k; cases eb
      refine ⟨⟨l.blk, l.shift + off, l.tot, false⟩, C', ee, fz, if_pos rfl, q2, .inl ⟨rfl, by rw [getElem?_setBlk, if_pos rfl, if_pos hlt]⟩, by rw [r2]; exact q4, fun _ => by rw [r2]; exact q5, fun i v hi => ?_⟩
      simp only
      rw [r3]
      by_cases hi2 : i < m
      · rw [if_neg (by omega)]
        rw [List.getElem?_append_left (by omega), hdc, List.getElem?_take, if_pos hi2, List.getElem?_drop] at hi
        obtain ⟨v', a, b⟩ := q6 _ _ hi
        exact ⟨v', by rw [Nat.add_assoc]; exact a, b.mono hle⟩
      · rw [List.getElem?_append_right (by omega), hol] at hi
        have : i - m < new.length := (List.getElem?_eq_some_iff.1 hi).1
        rw [if_pos (by omega)]
        obtain ⟨v', a, b⟩ := n1.get hi
        exact ⟨v', by rw [show l.shift + off + i - (l.shift + off + m) = i - m by omega]; exact a, b.mono hle⟩
    · rename_i k
      obtain ⟨l2, C2, e2, fz2, k1, k2, k3, k4, k5, k6⟩ := H.new b2 cs2 hb2 eb
      by_cases hne : l2.blk = l.blk
      · -- in the same row: ahead of what is written
        have hend : l2.shift + cs2.length ≤ l.shift + off + m := by
          by_cases kb : b2 = b
          · subst kb
            rw [hds] at eb; cases eb
            rw [g2] at k1; cases k1
            omega
          · have := (same b2 cs2 l2 hb2 kb eb k1 hne).2.2.2
            omega
        have km : l2.mp = false := by
          rcases k3 with ⟨km, _⟩ | ⟨_, _, _, es, k3, _⟩
          · exact km
          · rw [hne, q3] at k3; cases k3
        have k3 := k3.cells km
        rw [hne, q3] at k3; cases k3
        refine ⟨l2, C', ee, fz, hle _ _ k1, k2, .inl ⟨km, by rw [hne, getElem?_setBlk, if_pos rfl, if_pos hlt]⟩, by rw [r2]; exact k4, fun _ => by rw [r2]; exact k5 km, fun i v hi => ?_⟩
        have hil := (List.getElem?_eq_some_iff.1 hi).1
        obtain ⟨v', a, b⟩ := k6 i v hi
        exact ⟨v', by rw [r3, if_neg (by omega)]; exact a, b.mono hle⟩
      · refine ⟨l2, C2, e2, fz2, hle _ _ k1, k2, k3.keep (by rw [getElem?_setBlk, if_neg fun q => hne q.symm]), k4, k5, fun i v hi => ?_⟩
        obtain ⟨v', a, b⟩ := k6 i v hi
        exact ⟨v', a, b.mono hle⟩
  · -- the new one, and one that was there
    have mix : ∀ c y m2, n0 ≤ c → h.get c = some y → ρ c = some m2 → m2.blk = l.blk → c < h.next ∧ (h.app r b (old ++ new)).cls c = some r ∧ (h.app r b (old ++ new)).spent c = true ∧ m2.shift + y.length ≤ l.shift + off + (old ++ new).length := by
      intro c y m2 hc ec em eq
      have hlc := Heap.lt_of_get (h := h) (by rw [H.hn]; exact hc) ec
      by_cases kb : c = b
      · subst kb
        rw [hds] at ec; cases ec
        rw [g2] at em; cases em
        exact ⟨hlc, by rw [hcl c hlc]; exact hr, hspb, by simp only [List.length_append]; omega⟩
      · obtain ⟨z1, z2, z3, z4⟩ := same c y m2 hc kb ec em eq
        exact ⟨hlc, by rw [hcl c hlc]; exact z2, hspm c hc hlc z3, by simp only [List.length_append]; omega⟩
    intro b2 c2 l2 m2 x y hb2 hc2 e1 e2 e3 e4 e5
    rw [hng] at e1 e2
    unfold Ren.put at e3 e4
    split at e1
    · rename_i k1; rw [if_pos k1] at e3; cases e3
      split at e2
      · rename_i k2; exact .inl (by rw [k1, k2])
      · rename_i k2; rw [if_neg k2] at e4
        obtain ⟨z1, z2, z3, z4⟩ := mix c2 y m2 hc2 e2 e4 e5.symm
        cases e1
        exact .inr ⟨r, by rw [k1]; exact hclN, z2, fun q => by omega, fun _ => ⟨z3, z4⟩⟩
    · rename_i k1; rw [if_neg k1] at e3
      split at e2
      · rename_i k2; rw [if_pos k2] at e4; cases e4
        obtain ⟨z1, z2, z3, z4⟩ := mix b2 x l2 hb2 e1 e3 e5
        cases e2
        exact .inr ⟨r, z2, by rw [k2]; exact hclN, fun _ => ⟨z3, z4⟩, fun q => by omega⟩
      · rename_i k2; rw [if_neg k2] at e4
        have lb := Heap.lt_of_get (h := h) (by rw [H.hn]; exact hb2) e1
        have lc := Heap.lt_of_get (h := h) (by rw [H.hn]; exact hc2) e2
        rcases H.inj b2 c2 l2 m2 x y hb2 hc2 e1 e2 e3 e4 e5 with q | ⟨r', z1, z2, z3, z4⟩
        · exact .inl q
        · exact .inr ⟨r', by rw [hcl _ lb]; exact z1, by rw [hcl _ lc]; exact z2, fun q => ⟨hspm _ hb2 lb (z3 q).1, (z3 q).2⟩, fun q => ⟨hspm _ hc2 lc (z4 q).1, (z4 q).2⟩⟩
  · intro x hx
    unfold Ren.put at hx
    split at hx
    · rename_i k; right; subst k; refine ⟨Nat.le_refl _, ?_⟩
      rw [next_app']; omega
    · exact .inl hx
  · rw [next_app']; omega
  · intro c hc k
    have hne : l.blk ≠ c := k b ds l hb0 hds g2
    refine ⟨by rw [getElem?_setBlk, if_neg hne], fun b2 x l2 hb2 e1 e2 => ?_⟩
    rw [hng] at e1
    unfold Ren.put at e2
    split at e1
    · rename_i k1; rw [if_pos k1] at e2; cases e2; exact hne
    · rename_i k1; rw [if_neg k1] at e2
      exact k b2 x l2 hb2 e1 e2

theorem append_ok {sT xT ty : TypeId} {s x v : AVal} {s' x' : Value} {h' : Heap} (e : aAppend P h sT xT s x = .val v h') (hs : VR n0 ρ s s') (hx : VR n0 ρ x x')
    (H : HR n0 w0 ρ h w) (hf : h.next < h'.next → ρ h.next = none) : Does n0 w0 P ρ h w (Builtin.append_ #[sT, xT] ty #[s', x']) v h' := by
  unfold aAppend at e
  split at e
  · rename_i elem d hsT hxT
    split at e
    · rename_i i z hi hz
      obtain ⟨i2, zv, hi2, hzv, hzeq, hzk⟩ := tZero_eq hz
      rw [hi] at hi2; cases hi2
      have hn : tSize P elem = some i.size := by unfold tSize; rw [hi]
      split at e
      case isFalse => cases e
      rename_i hzl
      have hzs : zv.cells.size = i.size := by
        have hz2 : VRs n0 ρ z.cells zv.cells.toList := VR.cells (by rw [hzeq]; exact ofV0 zv) (known_ne hzk)
        have := hz2.length
        simp only [Array.length_toList] at this
        omega
      split at e
      · rename_i m new hsrc
        have hint : tIntB P xT = false := by
          unfold aSource at hsrc
          split at hsrc
          · cases hsrc
          · rename_i k; simpa using k
        rw [hint] at hsrc
        obtain ⟨new', n1, n2, n3, n4⟩ := source_ok (P := P) hsrc hx H
        have hnl := n1.length
        split at e
        · -- the nil slice
          cases hs
          split at e
          · rename_i hm; subst hm; cases e
            have hne : new' = [] := List.eq_nil_of_length_eq_zero (by omega)
            subst hne
            exact .same H ⟨_, append_room (ty := ty) hsT hn hxT hint n3 (n4 w fun _ => rfl) (by omega) rfl, .nils⟩
          · rename_i hm
            split at e
            · rename_i hlim
              cases e
              have hf' := hf (by simp [Heap.newG, Heap.next])
              have hrun := append_grow (ty := ty) (base := none) (len := 0) (cap := 0) (old' := []) hsT hi hzv hxT hint n3 (n4 w.drew fun _ => rfl) (by simp [Builtin.firstCells]) (by omega) (by omega) (by simpa using hlim.2.1)
              have hcg := grownCap_ge w (0 + m) 0 elem
              obtain ⟨k1, k2⟩ := fresh_ok (old := []) (old' := []) (k := grownCap w (0 + m) 0 elem - (0 + m)) (z := zv) H.drew hf' elem (.nil) n1
              have hsz := fresh_size (n := i.size) (m := m) (old' := []) (new' := new') hzs (c := grownCap w (0 + m) 0 elem) (need := m) (by simp; omega) (by omega)
              simp only [Nat.zero_add] at hrun k1 k2 hcg hsz
              refine ⟨_, _, _, hrun, ?_, k1, St.drew.trans k2⟩
              exact .slg (next_ge H) (if_pos rfl) rfl (.inr ⟨rfl, by simpa using hsz.symm⟩) hcg (Nat.le_refl _)
            · cases e
        · rename_i b off len cap sz ex
          split at e
          · rename_i old hold
            have hol := cells_length hold
            obtain ⟨old', o1, o2, o3⟩ := reads_ok (P := P) hold hs H len (Nat.le_refl _)
            rw [List.take_of_length_le (by omega)] at o1
            obtain ⟨a, cap', rfl, hc1, hc2, hlc⟩ := sl_form hs
            split at e
            · rename_i hroom
              split at e
              · -- nothing to append
                rename_i hm; subst hm; cases e
                have hne : new' = [] := List.eq_nil_of_length_eq_zero (by omega)
                subst hne
                exact .same H ⟨_, append_room (ty := ty) hsT hn hxT hint n3 (n4 w fun _ => rfl) (by omega) rfl, hs⟩
              · rename_i hm
                split at e
                · rename_i hexsz
                  split at e
                  · rename_i hone
                    split at e
                    · rename_i h2 hput
                      cases e
                      have hadr : tr n0 ρ b off = some a := by
                        cases hs with
                        | slx g1 g2 g3 => rcases g2 with g2 | g2
                                          · omega
                                          · rw [g2]; exact g1
                        | slg g1 g2 gm g3 g4 g5 =>
                          rcases g3 with g3 | g3
                          · omega
                          · rw [g3.1]; exact tr_of g1 g2 gm
                      obtain ⟨w', p1, p2, p3⟩ := H.put hput (tr_add hadr) n1 (one_cells n1 hone) P
                      refine ⟨ρ, w', _, append_room (ty := ty) hsT hn hxT hint n3 (n4 w fun _ => rfl) (by omega) p1, ?_, p2, p3⟩
                      cases hs with
                      | slx g1 g2 g3 => exact .slx g1 g2 (by omega)
                      | slg g1 g2 gm g3 g4 g5 => exact .slg g1 g2 gm g3 g4 (by omega)
                    · cases e
                  · cases e
                · cases e
            · rename_i hroom
              split at e
              · rename_i hlim
                obtain ⟨l40, l46, hip⟩ := hlim
                split at e
                · -- the capacity is known: a new row
                  rename_i hex
                  cases e
                  have hcc := hc2 hex
                  subst hcc
                  have hf' := hf (by simp [Heap.newG, Heap.next])
                  have hrun := append_grow (ty := ty) hsT hi hzv hxT hint n3 (n4 w.drew fun _ => rfl) (o3 w.drew fun _ => rfl) (by omega) l40 l46
                  have hcg := grownCap_ge w (len + m) cap' elem
                  obtain ⟨k1, k2⟩ := fresh_ok (k := grownCap w (len + m) cap' elem - (len + m)) (z := zv) H.drew hf' elem o1 n1
                  have hsz := fresh_size (n := i.size) (m := m) (old' := old') (new' := new') hzs (c := grownCap w (len + m) cap' elem) (need := len + m) (by rw [Nat.add_mul]; omega) hcg
                  refine ⟨_, _, _, hrun, ?_, k1, St.drew.trans k2⟩
                  exact .slg (next_ge H) (if_pos rfl) rfl (.inr ⟨rfl, by simpa using hsz.symm⟩) hcg (Nat.le_refl _)
                · rename_i hex
                  split at e
                  case h_2 => cases e
                  rename_i r hr
                  split at e
                  · rename_i hk
                    obtain ⟨hsz2, hb0, hone, hsp, hx, hfull⟩ := hk
                    cases e
                    have hf' := hf (by rw [next_app']; omega)
                    rw [H.hn] at hb0
                    obtain ⟨ds, hds, hdl, hdc⟩ := cells_eq hold
                    have hfull' : ds.length ≤ off + len * i.size := by
                      rcases Nat.lt_or_ge (off + len * i.size) ds.length with q | q
                      · have : h.cells b off (len * i.size + 1) = some ((ds.drop off).take (len * i.size + 1)) := by
                          unfold Heap.cells; rw [hds]; simp only; rw [if_pos (by omega)]
                        rw [this] at hfull; cases hfull
                      · exact q
                    by_cases hin : len + m ≤ cap'
                    · -- there is room all the same: the row itself grows
                      have hexf : ex = false := by simpa using hex
                      subst hexf
                      cases hs with
                      | slg g1 g2 gm g3 g4 g5 =>
                        rename_i l
                        rcases g3 with g3 | g3
                        · omega
                        · obtain ⟨ga, gt⟩ := g3
                          subst ga
                          rw [hsz2] at gt
                          obtain ⟨l', C, ee, fz, q1, q2, q3, q4, q5, q6⟩ := H.new b ds hb0 hds
                          rw [g2] at q1; cases q1
                          have q3 := q3.cells gm
                          have q5 := q5 gm
                          have hfit : l.shift + off + len * i.size + 0 + new'.length ≤ C.size := by
                            have : (len + m) * i.size ≤ cap' * i.size := Nat.mul_le_mul_right _ hin
                            rw [Nat.add_mul] at this
                            omega
                          obtain ⟨C', r1, r2, r3⟩ := run_store_list P l.blk (l.shift + off + len * i.size) ee fz new' 0 C w q3 hfit q4 (one_cells n1 hone)
                          have hst : (storeCells ((⟨l.blk, l.shift + off, none⟩ : Addr).add (len * i.size)) new').run P w = .ok () (setBlk w l.blk (.cells C' ee fz)) := by rw [addr_add]; exact r1
                          have hrun := append_room (ty := ty) (cap := cap') (base := some ⟨l.blk, l.shift + off, none⟩) hsT hn hxT hint n3 (n4 w fun _ => rfl) hin hst
                          obtain ⟨m1, m2⟩ := taken_ok H hb0 hds g2 hr hx hsp (m := len * i.size) hfull' q2 q3 q4 q5 q6 hf' hdc n1 hol r2 (by simpa using r3)
                          refine ⟨_, _, _, hrun, ?_, m1, m2⟩
                          refine .slg (next_ge H) (if_pos rfl) rfl (.inr ⟨rfl, ?_⟩) hin (Nat.le_refl _)
                          simpa using gt
                    · have hrun := append_grow (ty := ty) hsT hi hzv hxT hint n3 (n4 w.drew fun _ => rfl) (o3 w.drew fun _ => rfl) (by omega) l40 l46
                      have hcg := grownCap_ge w (len + m) cap' elem
                      obtain ⟨k1, k2⟩ := freshA_ok (k := grownCap w (len + m) cap' elem - (len + m)) (z := zv) H.drew hf' elem o1 n1 hb0 hr hx hds
                      have hsz := fresh_size (n := i.size) (m := m) (old' := old') (new' := new') hzs (c := grownCap w (len + m) cap' elem) (need := len + m) (by rw [Nat.add_mul]; omega) hcg
                      refine ⟨_, _, _, hrun, ?_, k1, St.drew.trans k2⟩
                      exact .slg (next_ge H) (if_pos rfl) rfl (.inr ⟨rfl, by simpa using hsz.symm⟩) hcg (Nat.le_refl _)
                  · cases e
              · cases e
          · cases e
        · cases e
      · cases e
    · cases e
  · cases e

theorem copy_ok {dT xT ty : TypeId} {d x v : AVal} {d' x' : Value} {h' : Heap} {r : List TypeId} (e : aCopy P h dT d x = .val v h') (hd : VR n0 ρ d d') (hx : VR n0 ρ x x')
    (H : HR n0 w0 ρ h w) : Does n0 w0 P ρ h w (Builtin.copy_ (dT :: r).toArray ty #[d', x']) v h' := by
  unfold aCopy at e
  split at e
  · rename_i elem hu
    split at e
    · rename_i n hn
      split at e
      · rename_i b off dl c1 s1 x1 b2 off2 xl c2 s2 x2
        split at e
        · rename_i cs hcs
          split at e
          · rename_i hone
            split at e
            · rename_i h2 hput
              cases e
              have hmin : Nat.min xl dl ≤ xl := Nat.min_le_left _ _
              obtain ⟨ad, cd, rfl, hd1, hd2, hd3⟩ := sl_form hd
              obtain ⟨ax, cx, rfl, hx1, hx2, hx3⟩ := sl_form hx
              by_cases hm : 0 < Nat.min xl dl
              · have hxl : 0 < xl := by omega
                have hdl : 0 < dl := by have : Nat.min xl dl ≤ dl := Nat.min_le_right _ _; omega
                obtain ⟨a1, k1, ha1, he1⟩ := sl_addr hd hdl
                obtain ⟨a2, k2, ha2, he2⟩ := sl_addr hx hxl
                cases he1; cases he2
                obtain ⟨cs', q1, q2, q3⟩ := H.cells hcs ha2
                have hfc : (Builtin.firstCells n (Nat.min xl dl) (.slice (some ax) xl cx)).run P w = .ok cs'.toArray w := run_firstCells_some w n _ ax xl cx cs' q1 q3
                obtain ⟨w', p1, p2, p3⟩ := H.put hput ha1 q2 (one_cells q2 hone) P
                refine ⟨ρ, w', .int .i64 (Nat.min xl dl : Nat), ?_, .int _ _, p2, p3⟩
                simp [Builtin.copy_, run_under hu, Builtin.lenOf, run_size hn, hfc, p1, goInt]
              · have hz : Nat.min xl dl = 0 := by omega
                have hnil : cs = [] := List.eq_nil_of_length_eq_zero (by rw [cells_length hcs, hz]; simp)
                subst hnil
                obtain ⟨hb, hbx, ds, hds, hl, rfl⟩ := Heap.put_eq hput
                have hsp : splice ds off [] = ds := by simp [splice]
                rw [hsp]
                have hsub : ∀ c, (h.putB b ds).get c = none ∨ (h.putB b ds).get c = h.get c := fun c => by
                  obtain ⟨p1, p2, p3⟩ := Heap.get_putB h hb hbx (Heap.up_of_get hb hds) ds c
                  by_cases k : c = b
                  · rw [p1 k]; subst k; exact .inr hds.symm
                  · by_cases k2 : h.mate b c
                    · exact .inl (p2 k2)
                    · exact .inr (p3 k k2)
                refine ⟨ρ, w, .int .i64 (Nat.min xl dl : Nat), ?_, .int _ _, H.sub (Heap.n0_putB h b ds) (funext fun j => Heap.cls_putB h b ds j) (funext fun j => Heap.spent_putB h b ds j) hsub, St.sub (Heap.next_putB h b ds) hsub⟩
                simp [Builtin.copy_, run_under hu, Builtin.lenOf, run_size hn, hz, Builtin.firstCells, loadCells, loadCellsFrom, storeCells, goInt]
            · cases e
          · cases e
        · cases e
      · cases e; cases hx
        obtain ⟨ad, cd, rfl, _⟩ := sl_form hd
        exact .same H ⟨.int .i64 0, by simp [Builtin.copy_, run_under hu, Builtin.lenOf, run_size hn, Builtin.firstCells, storeCells, goInt], .int _ _⟩
      · cases e; cases hd
        obtain ⟨ax, cx, rfl, _⟩ := sl_form hx
        exact .same H ⟨.int .i64 0, by simp [Builtin.copy_, run_under hu, Builtin.lenOf, run_size hn, Builtin.firstCells, loadCells, loadCellsFrom, goInt], .int _ _⟩
      · cases e; cases hd; cases hx
        exact .same H ⟨.int .i64 0, by simp [Builtin.copy_, run_under hu, Builtin.lenOf, run_size hn, Builtin.firstCells, goInt], .int _ _⟩
      · cases e
    · cases e
  · cases e

section
variable {d : Nat} {t el : TypeId} {a : Addr} (w : World)
theorem eqIn_pn (hu : P.underlying t = some (.pointer el)) : (Op.equalIn (d + 1) t (.pointer (some a)) (.pointer none)).run P w = .ok false w := by simp [Op.equalIn, run_under hu]
theorem eqIn_np (hu : P.underlying t = some (.pointer el)) : (Op.equalIn (d + 1) t (.pointer none) (.pointer (some a))).run P w = .ok false w := by simp [Op.equalIn, run_under hu]
theorem eqIn_sn {l c : Nat} (hu : P.underlying t = some (.slice el)) : (Op.equalIn (d + 1) t (.slice (some a) l c) (.slice none 0 0)).run P w = .ok false w := by simp [Op.equalIn, run_under hu]
theorem eqIn_ns {l c : Nat} (hu : P.underlying t = some (.slice el)) : (Op.equalIn (d + 1) t (.slice none 0 0) (.slice (some a) l c)).run P w = .ok false w := by simp [Op.equalIn, run_under hu]
theorem eqIn_fn {f : Fn} {x y : Array Value} {ps rs : Array TypeId} {v : Bool} (hu : P.underlying t = some (.func ps rs v)) : (Op.equalIn (d + 1) t (.func f x y) .nilFunc).run P w = .ok false w := by simp [Op.equalIn, run_under hu]
theorem eqIn_nf {f : Fn} {x y : Array Value} {ps rs : Array TypeId} {v : Bool} (hu : P.underlying t = some (.func ps rs v)) : (Op.equalIn (d + 1) t .nilFunc (.func f x y)).run P w = .ok false w := by simp [Op.equalIn, run_under hu]
end

theorem nil_key {op : BinOp} {t : TypeId} {x y : Operand} {v : AVal} {a' b' : Value} (hg : (eqGuard op t x y a' b').run P w = .ok () w) (he : (Op.equalIn (9999 + 1) t a' b').run P w = .ok false w)
    (hv : nilRes op = some v) (h1 : op = .eql → binOp op t a' b' = (do pure (.bool (← Op.equal t a' b')))) (h2 : op = .neq → binOp op t a' b' = (do pure (.bool (!(← Op.equal t a' b'))))) :
    ∃ v', (do eqGuard op t x y a' b'; binOp op t a' b' : Sem Value).run P w = .ok v' w ∧ VR n0 ρ v v' := by
  have he' : (Op.equal t a' b').run P w = .ok false w := he
  unfold nilRes at hv
  split at hv
  · cases hv
    refine ⟨.bool false, ?_, .bool _⟩
    rw [h1 rfl]; simp [hg, he']
  · cases hv
    refine ⟨.bool true, ?_, .bool _⟩
    rw [h2 rfl]; simp [hg, he']
  · cases hv

theorem nilCmp_ok {op : BinOp} {t : TypeId} {x y : Operand} {a b v : AVal} {a' b' : Value} (e : aNilCmp P op t a b = some v) (ha : VR n0 ρ a a') (hb : VR n0 ρ b b') :
    ∃ v', (do eqGuard op t x y a' b'; binOp op t a' b' : Sem Value).run P w = .ok v' w ∧ VR n0 ρ v v' := by
  unfold aNilCmp at e
  split at e
  · rename_i hu; cases ha; cases hb
    exact nil_key (by unfold eqGuard; split <;> simp) (eqIn_pn (d := 9999) w hu) e (fun k => by subst k; rfl) (fun k => by subst k; rfl)
  · rename_i hu; cases ha; cases hb
    exact nil_key (by unfold eqGuard; split <;> simp) (eqIn_np (d := 9999) w hu) e (fun k => by subst k; rfl) (fun k => by subst k; rfl)
  · rename_i hu; cases hb
    obtain ⟨a2, c2, rfl, _⟩ := sl_form ha
    exact nil_key (by unfold eqGuard; split <;> simp) (eqIn_sn (d := 9999) w hu) e (fun k => by subst k; rfl) (fun k => by subst k; rfl)
  · rename_i hu; cases ha
    obtain ⟨a2, c2, rfl, _⟩ := sl_form hb
    exact nil_key (by unfold eqGuard; split <;> simp) (eqIn_ns (d := 9999) w hu) e (fun k => by subst k; rfl) (fun k => by subst k; rfl)
  · rename_i hu; cases ha; cases hb
    exact nil_key (by unfold eqGuard; split <;> simp) (eqIn_fn (d := 9999) w hu) e (fun k => by subst k; rfl) (fun k => by subst k; rfl)
  · rename_i hu; cases ha; cases hb
    exact nil_key (by unfold eqGuard; split <;> simp) (eqIn_nf (d := 9999) w hu) e (fun k => by subst k; rfl) (fun k => by subst k; rfl)
  · cases e

theorem bin_ok {op : BinOp} {t : TypeId} {x y : Operand} {a b v : AVal} {a' b' : Value} (e : aBin P op t x y a b = some v) (ha : VR n0 ρ a a') (hb : VR n0 ρ b b') :
    ∃ v', (do eqGuard op t x y a' b'; binOp op t a' b' : Sem Value).run P w = .ok v' w ∧ VR n0 ρ v v' := by
  unfold aBin at e
  split at e
  · rename_i u1 u2 h1 h2
    split at e
    · rename_i r hr
      cases e
      rw [toV_eq h1 ha, toV_eq h2 hb]
      exact ⟨r, aPure_run hr w, ofV0 r⟩
    · cases e
  · exact nilCmp_ok e ha hb

theorem un_ok {op : UnOp} {a v : AVal} {a' : Value} (e : aUn P op a = some v) (ha : VR n0 ρ a a') : ∃ v', (Op.unary op a').run P w = .ok v' w ∧ VR n0 ρ v v' := by
  unfold aUn at e
  split at e
  · rename_i u1 h1
    split at e
    · rename_i r hr
      cases e
      rw [toV_eq h1 ha]
      exact ⟨r, aPure_run hr w, ofV0 r⟩
    · cases e
  · cases e

theorem pureB_ok {s : Array Value → Sem Value} {args : List AVal} {args' : List Value} {v : AVal} (e : aPureB P s args = some v) (ha : VRs n0 ρ args args') :
    ∃ v', (s args'.toArray).run P w = .ok v' w ∧ VR n0 ρ v v' := by
  unfold aPureB at e
  split at e
  · rename_i l hl
    split at e
    · rename_i r hr
      cases e
      rw [toVs_eq hl ha]
      exact ⟨r, aPure_run hr w, ofV0 r⟩
    · cases e
  · cases e

theorem assert_ok {x v : AVal} {x' : Value} {xT asserted : TypeId} {ok : Bool} (e : aAssert P x asserted ok = some v) (hx : VR n0 ρ x x') :
    ∃ v', (Instr.typeAssert x' xT asserted ok).run P w = .ok v' w ∧ VR n0 ρ v v' := by
  unfold aAssert at e
  split at e
  · cases e
  · rename_i hi
    have hd : ∃ d, P.underlying asserted = some d ∧ ∀ ms, d ≠ .interface ms := by
      unfold tIface at hi
      split at hi
      · exact absurd rfl hi
      · exact absurd rfl hi
      · rename_i d h1 h2
        cases hu : P.underlying asserted with
        | none => exact absurd hu h2
        | some d => exact ⟨d, rfl, fun ms q => h1 ms (by rw [hu, q])⟩
    obtain ⟨d, hu, hne⟩ := hd
    split at e
    · rename_i t u
      cases hx with
      | iface k =>
        rename_i u'
        split at e
        · rename_i ht; subst ht
          cases ok
          · simp only [Bool.false_eq_true, if_false, Option.some.injEq] at e; subst e
            refine ⟨u', ?_, k⟩
            simp only [Instr.typeAssert, Sem.run_bind, run_under hu, Result.andThen_ok]
            cases d <;> first | exact absurd rfl (hne _) | simp
          · simp only [if_true, Option.some.injEq] at e; subst e
            refine ⟨.tuple #[u', .bool true], ?_, .tup (.cons k (.cons (.bool _) .nil))⟩
            simp only [Instr.typeAssert, Sem.run_bind, run_under hu, Result.andThen_ok]
            cases d <;> first | exact absurd rfl (hne _) | simp
        · rename_i ht
          split at e
          · rename_i hok
            split at e
            · rename_i z hz
              cases e
              obtain ⟨zv, z1, z2⟩ := run_zero hz w
              refine ⟨.tuple #[zv, .bool false], ?_, .tup (.cons (by rw [z2]; exact ofV0 zv) (.cons (.bool _) .nil))⟩
              simp only [Instr.typeAssert, Sem.run_bind, run_under hu, Result.andThen_ok]
              cases d <;> first | exact absurd rfl (hne _) | simp [ht, hok, z1]
            · cases e
          · cases e
    · cases hx
      split at e
      · rename_i hok
        split at e
        · rename_i z hz
          cases e
          obtain ⟨zv, z1, z2⟩ := run_zero hz w
          refine ⟨.tuple #[zv, .bool false], ?_, .tup (.cons (by rw [z2]; exact ofV0 zv) (.cons (.bool _) .nil))⟩
          simp only [Instr.typeAssert, Sem.run_bind, run_under hu, Result.andThen_ok]
          cases d <;> first | exact absurd rfl (hne _) | simp [hok, z1]
        · cases e
      · cases e
    · cases e

end
end Go.Ab
