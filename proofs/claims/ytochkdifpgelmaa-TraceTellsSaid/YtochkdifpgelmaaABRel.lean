/-
  The abstract machine: how its values and its heap stand to the model's.
-/
import Derived.Test.YtochkdifpgelmaaABDef
set_option linter.unusedVariables false
set_option linter.unusedSimpArgs false
namespace Go.Ab

/-- Where a block lies; 'mp': it is a map. -/
structure RLoc where
  blk : Nat
  shift : Nat
  tot : Nat
  mp : Bool := false

abbrev Ren := Nat → Option RLoc

def tr (n0 : Nat) (ρ : Ren) (b off : Nat) : Option Addr :=
  if b < n0 then some ⟨b, off, none⟩ else match ρ b with
    | some l => if l.mp then none else some ⟨l.blk, l.shift + off, none⟩
    | none => none

mutual
inductive VR (n0 : Nat) (ρ : Ren) : AVal → Value → Prop where
  | bool (b : Bool) : VR n0 ρ (.bool b) (.bool b)
  | int (k : IntKind) (n : Int) : VR n0 ρ (.int k n) (.int k n)
  | flt (k : FloatKind) (b : Nat) : VR n0 ρ (.flt k b) (.float k b)
  | str (s : ByteArray) : VR n0 ρ (.str s) (.string s)
  | nilp : VR n0 ρ .nilp (.pointer none)
  | ptr {b off : Nat} {a : Addr} : tr n0 ρ b off = some a → VR n0 ρ (.ptr b off) (.pointer (some a))
  | nils : VR n0 ρ .nils (.slice none 0 0)
  | slx {b off len cap sz : Nat} {a a' : Addr} : tr n0 ρ b off = some a → (cap = 0 ∨ a' = a) → len ≤ cap → VR n0 ρ (.sl b off len cap sz true) (.slice (some a') len cap)
  | slg {b off len cap sz cap' : Nat} {l : RLoc} {a' : Addr} : n0 ≤ b → ρ b = some l → l.mp = false → (cap' = 0 ∨ (a' = ⟨l.blk, l.shift + off, none⟩ ∧ l.shift + off + cap' * sz = l.tot)) → cap ≤ cap' → len ≤ cap →
      VR n0 ρ (.sl b off len cap sz false) (.slice (some a') len cap')
  | fn {f : FuncId} {x y : List AVal} {x' y' : List Value} : VRs n0 ρ x x' → VRs n0 ρ y y' → VR n0 ρ (.fn f x y) (.func (.func f) x'.toArray y'.toArray)
  | nilf : VR n0 ρ .nilf .nilFunc
  | iface {t : TypeId} {v : AVal} {v' : Value} : VR n0 ρ v v' → VR n0 ρ (.iface t v) (.iface t v')
  | nili : VR n0 ρ .nili .nilIface
  | agg {x : List AVal} {x' : List Value} : VRs n0 ρ x x' → VR n0 ρ (.agg x) (.agg x'.toArray)
  | tup {x : List AVal} {x' : List Value} : VRs n0 ρ x x' → VR n0 ρ (.tup x) (.tuple x'.toArray)
  | mp {b : Nat} {l : RLoc} : n0 ≤ b → ρ b = some l → l.mp = true → VR n0 ρ (.mp b) (.map (some l.blk))
  | opq (v : Value) : VR n0 ρ .opq v
inductive VRs (n0 : Nat) (ρ : Ren) : List AVal → List Value → Prop where
  | nil : VRs n0 ρ [] []
  | cons {v : AVal} {v' : Value} {r : List AVal} {r' : List Value} : VR n0 ρ v v' → VRs n0 ρ r r' → VRs n0 ρ (v :: r) (v' :: r')
end

def Ren.le (ρ ρ' : Ren) : Prop := ∀ b l, ρ b = some l → ρ' b = some l
theorem Ren.le_refl (ρ : Ren) : ρ.le ρ := fun _ _ h => h
theorem Ren.le_trans {a b c : Ren} (h : a.le b) (k : b.le c) : a.le c := fun x l e => k x l (h x l e)

theorem tr_mono {n0 : Nat} {ρ ρ' : Ren} (h : ρ.le ρ') {b off : Nat} {a : Addr} (e : tr n0 ρ b off = some a) : tr n0 ρ' b off = some a := by
  unfold tr at *
  split
  · rename_i hb; simpa [hb] using e
  · rename_i hb
    simp only [hb, if_false] at e
    cases hr : ρ b with
    | none => rw [hr] at e; cases e
    | some l => rw [hr] at e; rw [h _ _ hr]; exact e

mutual
theorem VR.mono {n0 : Nat} {ρ ρ' : Ren} (h : ρ.le ρ') : ∀ {v : AVal} {v' : Value}, VR n0 ρ v v' → VR n0 ρ' v v'
  | _, _, .bool b => .bool b
  | _, _, .int k n => .int k n
  | _, _, .flt k b => .flt k b
  | _, _, .str s => .str s
  | _, _, .nilp => .nilp
  | _, _, .ptr e => .ptr (tr_mono h e)
  | _, _, .nils => .nils
  | _, _, .slx e c d => .slx (tr_mono h e) c d
  | _, _, .slg a b c d e f => .slg a (h _ _ b) c d e f
  | _, _, .mp a b c => .mp a (h _ _ b) c
  | _, _, .fn a b => .fn (VRs.mono h a) (VRs.mono h b)
  | _, _, .nilf => .nilf
  | _, _, .iface a => .iface (VR.mono h a)
  | _, _, .nili => .nili
  | _, _, .agg a => .agg (VRs.mono h a)
  | _, _, .tup a => .tup (VRs.mono h a)
  | _, _, .opq v => .opq v
theorem VRs.mono {n0 : Nat} {ρ ρ' : Ren} (h : ρ.le ρ') : ∀ {x : List AVal} {x' : List Value}, VRs n0 ρ x x' → VRs n0 ρ' x x'
  | _, _, .nil => .nil
  | _, _, .cons a b => .cons (VR.mono h a) (VRs.mono h b)
end

section
variable {n0 : Nat} {ρ : Ren}

theorem VRs.length {x : List AVal} {x' : List Value} (h : VRs n0 ρ x x') : x.length = x'.length := by
  induction x generalizing x' with
  | nil => cases h; rfl
  | cons v r ih => cases h with | cons a b => simp [ih b]

theorem VRs.get {x : List AVal} {x' : List Value} (h : VRs n0 ρ x x') {i : Nat} {v : AVal} (e : x[i]? = some v) : ∃ v', x'[i]? = some v' ∧ VR n0 ρ v v' := by
  induction x generalizing x' i with
  | nil => simp at e
  | cons u r ih =>
    cases h with
    | cons a b =>
      cases i with
      | zero => simp only [List.getElem?_cons_zero, Option.some.injEq] at e; subst e; exact ⟨_, rfl, a⟩
      | succ i => simp only [List.getElem?_cons_succ] at e ⊢; exact ih b e

theorem VRs.of_get {x : List AVal} {x' : List Value} (hl : x.length = x'.length) (h : ∀ (i : Nat) (v : AVal) (v' : Value), x[i]? = some v → x'[i]? = some v' → VR n0 ρ v v') : VRs n0 ρ x x' := by
  induction x generalizing x' with
  | nil => cases x' with | nil => exact .nil | cons _ _ => simp at hl
  | cons u r ih =>
    cases x' with
    | nil => simp at hl
    | cons u' r' =>
      exact .cons (h 0 u u' rfl rfl) (ih (by simpa using hl) fun i v v' e e' => h (i + 1) v v' (by simpa using e) (by simpa using e'))

theorem VRs.append {x y : List AVal} {x' y' : List Value} (h : VRs n0 ρ x x') (k : VRs n0 ρ y y') : VRs n0 ρ (x ++ y) (x' ++ y') := by
  induction x generalizing x' with
  | nil => cases h; exact k
  | cons u r ih => cases h with | cons a b => exact .cons a (ih b)

theorem VRs.take {x : List AVal} {x' : List Value} (h : VRs n0 ρ x x') (n : Nat) : VRs n0 ρ (x.take n) (x'.take n) := by
  induction x generalizing x' n with
  | nil => cases h; simp; exact .nil
  | cons u r ih =>
    cases h with
    | cons a b => cases n with
      | zero => simp; exact .nil
      | succ n => exact .cons a (ih b n)

theorem VRs.drop {x : List AVal} {x' : List Value} (h : VRs n0 ρ x x') (n : Nat) : VRs n0 ρ (x.drop n) (x'.drop n) := by
  induction x generalizing x' n with
  | nil => cases h; simp; exact .nil
  | cons u r ih =>
    cases h with
    | cons a b => cases n with
      | zero => exact .cons a b
      | succ n => exact ih b n

theorem VR.cells {v : AVal} {v' : Value} (h : VR n0 ρ v v') (hv : v ≠ .opq) : VRs n0 ρ v.cells v'.cells.toList := by
  cases h <;> simp only [AVal.cells, Value.cells] <;> first | exact absurd rfl hv | skip
  all_goals first
    | assumption
    | (refine .cons ?_ .nil; constructor <;> assumption)
    | (refine .cons ?_ .nil; constructor; done)

mutual
theorem toV_eq : ∀ {v : AVal} {x y : Value}, v.toV = some x → VR n0 ρ v y → y = x
  | .bool _, _, _, e, h => by cases h; simp only [AVal.toV, Option.some.injEq] at e; exact e
  | .int _ _, _, _, e, h => by cases h; simp only [AVal.toV, Option.some.injEq] at e; exact e
  | .flt _ _, _, _, e, h => by cases h; simp only [AVal.toV, Option.some.injEq] at e; exact e
  | .str _, _, _, e, h => by cases h; simp only [AVal.toV, Option.some.injEq] at e; exact e
  | .nilp, _, _, e, h => by cases h; simp only [AVal.toV, Option.some.injEq] at e; exact e
  | .ptr _ _, _, _, e, h => by simp [AVal.toV] at e
  | .nils, _, _, e, h => by cases h; simp only [AVal.toV, Option.some.injEq] at e; exact e
  | .sl .., _, _, e, h => by simp [AVal.toV] at e
  | .fn .., _, _, e, h => by simp [AVal.toV] at e
  | .nilf, _, _, e, h => by cases h; simp only [AVal.toV, Option.some.injEq] at e; exact e
  | .iface t v, _, _, e, h => by
    cases h with
    | iface k =>
      simp only [AVal.toV] at e
      split at e
      · rename_i x hx; cases e; rw [toV_eq hx k]
      · cases e
  | .nili, _, _, e, h => by cases h; simp only [AVal.toV, Option.some.injEq] at e; exact e
  | .agg cs, _, _, e, h => by
    cases h with
    | agg k =>
      simp only [AVal.toV] at e
      split at e
      · rename_i x hx; cases e; rw [toVs_eq hx k]
      · cases e
  | .tup cs, _, _, e, h => by
    cases h with
    | tup k =>
      simp only [AVal.toV] at e
      split at e
      · rename_i x hx; cases e; rw [toVs_eq hx k]
      · cases e
  | .opq, _, _, e, h => by simp [AVal.toV] at e
theorem toVs_eq : ∀ {v : List AVal} {x y : List Value}, AVal.toVs v = some x → VRs n0 ρ v y → y = x
  | [], _, _, e, h => by cases h; simp only [AVal.toVs, Option.some.injEq] at e; exact e
  | v :: r, _, _, e, h => by
    cases h with
    | cons a b =>
      simp only [AVal.toVs] at e
      split at e
      · rename_i x y hx hy; cases e; rw [toV_eq hx a, toVs_eq hy b]
      · cases e
end

end

mutual
theorem ofV_VR {n0 : Nat} {ρ : Ren} (m : Nat) (hm : m ≤ n0) : ∀ v : Value, VR n0 ρ (ofV m v) v
  | .bool b => .bool b
  | .int k n => .int k n
  | .float k b => .flt k b
  | .string s => .str s
  | .pointer none => .nilp
  | .pointer (some ⟨b, off, none⟩) => by
    simp only [ofV]; split
    · exact .ptr (by simp only [tr]; rw [if_pos (by omega)])
    · exact .opq _
  | .pointer (some ⟨b, off, some s⟩) => .opq _
  | .slice none 0 0 => .nils
  | .slice none (n + 1) c => .opq _
  | .slice none 0 (c + 1) => .opq _
  | .slice (some ⟨b, off, none⟩) len cap => by
    simp only [ofV]; split
    · rename_i h
      by_cases hz : cap = 0
      · rw [if_pos hz]; exact .slx (a := ⟨b, 0, none⟩) (by simp only [tr]; rw [if_pos (by omega)]) (.inl hz) h.2
      · rw [if_neg hz]; exact .slx (by simp only [tr]; rw [if_pos (by omega)]) (.inr rfl) h.2
    · split
      · rename_i h; obtain ⟨rfl, rfl, h0⟩ := h; exact .slx (a := ⟨0, 0, none⟩) (by simp only [tr]; rw [if_pos (by omega)]) (.inl rfl) (Nat.le_refl _)
      · exact .opq _
  | .slice (some ⟨b, off, some s⟩) len cap => by
    simp only [ofV]; split
    · rename_i h; obtain ⟨rfl, rfl, h0⟩ := h; exact .slx (a := ⟨0, 0, none⟩) (by simp only [tr]; rw [if_pos (by omega)]) (.inl rfl) (Nat.le_refl _)
    · exact .opq _
  | .func (.func f) ⟨a⟩ ⟨c⟩ => .fn (ofVs_VRs m hm a) (ofVs_VRs m hm c)
  | .func (.method _) _ _ => .opq _
  | .func (.methodOf _ _) _ _ => .opq _
  | .func (.via _ _ _ _) _ _ => .opq _
  | .func (.yield _) _ _ => .opq _
  | .nilFunc => .nilf
  | .iface t v => .iface (ofV_VR m hm v)
  | .nilIface => .nili
  | .agg ⟨cs⟩ => .agg (ofVs_VRs m hm cs)
  | .tuple ⟨cs⟩ => .tup (ofVs_VRs m hm cs)
  | .complex _ _ _ => .opq _
  | .map _ => .opq _
  | .chan _ => .opq _
theorem ofVs_VRs {n0 : Nat} {ρ : Ren} (m : Nat) (hm : m ≤ n0) : ∀ l : List Value, VRs n0 ρ (ofVs m l) l
  | [] => .nil
  | v :: r => .cons (ofV_VR m hm v) (ofVs_VRs m hm r)
end

/-! ## The heap -/

theorem Tr.get_setF {α : Type} : ∀ (n : Nat) (t : Tr α) (k : Nat) (x : Option α) (j : Nat), k < n → (Tr.setF n t k x).get j = if j = k then x else t.get j
  | 0, _, _, _, _, h => absurd h (Nat.not_lt_zero _)
  | n + 1, .nil, k, x, j, h => by
    simp only [Tr.setF]
    by_cases hk : k = 0
    · subst hk; simp only [if_true, Tr.get]
      split <;> simp_all
    · simp only [hk, if_false]
      by_cases h2 : k % 2 = 1
      · simp only [h2, if_true, Tr.get]
        by_cases hj : j = 0
        · subst hj; rw [if_pos rfl, if_neg (by omega)]
        · rw [if_neg hj]
          by_cases j2 : j % 2 = 1
          · rw [if_pos j2, Tr.get_setF n .nil (k / 2) x (j / 2) (by omega)]
            simp only [Tr.get]
            by_cases e : j = k
            · subst e; simp
            · rw [if_neg (by omega), if_neg e]
          · rw [if_neg j2, if_neg (by intro e; subst e; exact j2 h2)]
      · simp only [h2, if_false, Tr.get]
        by_cases hj : j = 0
        · subst hj; rw [if_pos rfl, if_neg (by omega)]
        · rw [if_neg hj]
          by_cases j2 : j % 2 = 1
          · rw [if_pos j2, if_neg (by intro e; subst e; exact h2 j2)]
          · rw [if_neg j2, Tr.get_setF n .nil (k / 2 - 1) x (j / 2 - 1) (by omega)]
            simp only [Tr.get]
            by_cases e : j = k
            · subst e; simp
            · rw [if_neg (by omega), if_neg e]
  | n + 1, .node v l r, k, x, j, h => by
    simp only [Tr.setF]
    by_cases hk : k = 0
    · subst hk; simp only [if_true, Tr.get]
      split <;> simp_all
    · simp only [hk, if_false]
      by_cases h2 : k % 2 = 1
      · simp only [h2, if_true, Tr.get]
        by_cases hj : j = 0
        · subst hj; rw [if_pos rfl, if_neg (by omega)]; simp
        · rw [if_neg hj, if_neg hj]
          by_cases j2 : j % 2 = 1
          · rw [if_pos j2, if_pos j2, Tr.get_setF n l (k / 2) x (j / 2) (by omega)]
            by_cases e : j = k
            · subst e; simp
            · rw [if_neg (by omega), if_neg e]
          · rw [if_neg j2, if_neg j2, if_neg (by intro e; subst e; exact j2 h2)]
      · simp only [h2, if_false, Tr.get]
        by_cases hj : j = 0
        · subst hj; rw [if_pos rfl, if_neg (by omega)]; simp
        · rw [if_neg hj, if_neg hj]
          by_cases j2 : j % 2 = 1
          · rw [if_pos j2, if_pos j2, if_neg (by intro e; subst e; exact h2 j2)]
          · rw [if_neg j2, if_neg j2, Tr.get_setF n r (k / 2 - 1) x (j / 2 - 1) (by omega)]
            by_cases e : j = k
            · subst e; simp
            · rw [if_neg (by omega), if_neg e]

theorem Tr.get_set {α : Type} (t : Tr α) (k : Nat) (x : Option α) (j : Nat) : (t.set k x).get j = if j = k then x else t.get j :=
  Tr.get_setF (k + 1) t k x j (Nat.lt_succ_self k)

theorem Heap.lt_of_get {h : Heap} {b : Nat} {cs : List AVal} (hb : h.n0 ≤ b) (e : h.get b = some cs) : b < h.next := by
  unfold Heap.get at e
  rw [if_neg (by omega)] at e
  split at e
  · rename_i k; exact k
  · cases e

theorem Heap.get_ge {h : Heap} {b : Nat} (hb : h.next ≤ b) : h.get b = none := by
  unfold Heap.next at hb
  unfold Heap.get
  rw [if_neg (by omega), if_neg (by omega)]

theorem Heap.up_of_get {h : Heap} {b : Nat} {cs : List AVal} (hb : h.n0 ≤ b) (e : h.get b = some cs) : h.up b = true := by
  unfold Heap.get at e
  rw [if_neg (by omega)] at e
  split at e
  · split at e
    · assumption
    · cases e
  · cases e

theorem Heap.cls_eq {h : Heap} {b r : Nat} (e : h.cls b = some r) : h.n0 ≤ r ∧ r ≤ b ∧ b < h.next := by
  unfold Heap.cls at e
  split at e
  · rename_i k
    split at e
    · split at e
      · rename_i q; cases e; exact ⟨q.1, q.2, k.2⟩
      · cases e
    · cases e
  · cases e

theorem Heap.cls_ge {h : Heap} {b : Nat} (hb : h.next ≤ b) : h.cls b = none := by
  unfold Heap.next at hb
  unfold Heap.cls
  rw [if_neg (by omega)]

/-- Reading, where class and bounds are the same. -/
theorem Heap.get_congr {h h' : Heap} {j : Nat} (hn : h'.n0 = h.n0) (hb : h'.base = h.base) (hj : j < h'.n0 + h'.cnt ↔ j < h.n0 + h.cnt) (hu : h'.up j = h.up j) (ht : h'.t.get (j - h'.n0) = h.t.get (j - h.n0)) : h'.get j = h.get j := by
  unfold Heap.get
  rw [hn, hb, hu, ← hn, ht, hn]
  rw [← hn] at hj ⊢
  by_cases k : j < h'.n0
  · rw [if_pos k, if_pos k]
  · rw [if_neg k, if_neg k]
    by_cases k2 : j < h'.n0 + h'.cnt
    · rw [if_pos k2, if_pos (hj.1 k2)]
    · rw [if_neg k2, if_neg fun q => k2 (hj.2 q)]

theorem Heap.get_setB' (h : Heap) {b : Nat} (hb : h.n0 ≤ b) (hb2 : b < h.next) (x : Option (List AVal)) (j : Nat) : (h.setB b x).get j = if j = b then (if h.up b = true then x else none) else h.get j := by
  unfold Heap.next at hb2
  show (if j < h.n0 then h.base j else if j < h.n0 + h.cnt then (if h.up j = true then (h.t.set (b - h.n0) x).get (j - h.n0) else none) else none) = _
  by_cases e : j = b
  · subst e
    rw [if_neg (by omega), if_pos hb2, if_pos rfl, Tr.get_set, if_pos rfl]
  · rw [if_neg e]
    unfold Heap.get
    by_cases hj : j < h.n0
    · rw [if_pos hj, if_pos hj]
    · rw [Tr.get_set, if_neg hj, if_neg hj, if_neg (show ¬ j - h.n0 = b - h.n0 by omega)]

theorem Heap.get_setB (h : Heap) {b : Nat} (hb : h.n0 ≤ b) (hb2 : b < h.next) (hu : h.up b = true) (x : Option (List AVal)) (j : Nat) : (h.setB b x).get j = if j = b then x else h.get j := by
  rw [Heap.get_setB' h hb hb2, if_pos hu]

theorem Heap.get_kill (h : Heap) {b : Nat} (hb : h.n0 ≤ b) (j : Nat) : (h.kill b).get j = if j = b then none else h.get j := by
  by_cases hb2 : b < h.next
  · show (h.setB b none).get j = _
    rw [Heap.get_setB' h hb hb2]
    split
    · split <;> rfl
    · rfl
  · unfold Heap.next at hb2
    by_cases e : j = b
    · subst e; rw [if_pos rfl]; exact Heap.get_ge (h := h.setB j none) (by unfold Heap.next; exact Nat.le_of_not_lt hb2)
    · rw [if_neg e]
      show (if j < h.n0 then h.base j else if j < h.n0 + h.cnt then (if h.up j = true then (h.t.set (b - h.n0) none).get (j - h.n0) else none) else none) = _
      unfold Heap.get
      by_cases hj : j < h.n0
      · rw [if_pos hj, if_pos hj]
      · by_cases hj2 : j < h.n0 + h.cnt
        · rw [Tr.get_set, if_neg (show ¬ j - h.n0 = b - h.n0 by omega)]
        · rw [if_neg hj, if_neg hj, if_neg hj2, if_neg hj2]

theorem Heap.up_none {h : Heap} {b : Nat} (e : h.cls b = none) : h.up b = true := by unfold Heap.up; rw [e]
theorem Heap.up_congr {h h' : Heap} {j : Nat} (hn : h'.n0 = h.n0) (hc : h'.cls j = h.cls j) (hl : ∀ r, h.cls j = some r → h'.lo.get (r - h.n0) = h.lo.get (r - h.n0)) : h'.up j = h.up j := by
  unfold Heap.up
  rw [hc]
  cases e : h.cls j with
  | none => rfl
  | some r => simp only; rw [hn, hl r e]

theorem Heap.cls_set {h : Heap} {x : Option Nat} {j : Nat} {h' : Heap} (hn : h'.n0 = h.n0) (hcnt : h'.cnt = h.cnt + 1) (hc : h'.cl = h.cl.set h.cnt x) (hx : ∀ r, x = some r → h.n0 ≤ r ∧ r ≤ h.next) :
    h'.cls j = if j = h.next then x else h.cls j := by
  unfold Heap.cls Heap.next
  unfold Heap.next at hx
  rw [hn, hcnt, hc, Tr.get_set]
  by_cases e : j = h.n0 + h.cnt
  · subst e
    rw [if_pos rfl, if_pos (by omega), if_pos (by omega)]
    cases x with
    | none => rfl
    | some r => simp only; rw [if_pos (by have := hx r rfl; omega)]
  · rw [if_neg e]
    by_cases k : h.n0 ≤ j ∧ j < h.n0 + h.cnt
    · rw [if_pos k, if_pos (by omega), if_neg (by omega)]
    · rw [if_neg k, if_neg (by omega)]

theorem Heap.cls_new (h : Heap) (m : Bool) (cs : List AVal) (j : Nat) : (h.new m cs).cls j = h.cls j := by
  rw [Heap.cls_set (h := h) (h' := h.new m cs) (x := none) rfl rfl rfl (by simp)]
  split
  · rename_i e; subst e; exact (Heap.cls_ge (Nat.le_refl _)).symm
  · rfl
theorem Heap.spent_new (h : Heap) (m : Bool) (cs : List AVal) (j : Nat) : (h.new m cs).spent j = h.spent j := rfl
theorem Heap.cls_newG (h : Heap) (cs : List AVal) (j : Nat) : (h.newG cs).cls j = if j = h.next then some h.next else h.cls j :=
  Heap.cls_set rfl rfl rfl fun r e => by cases e; unfold Heap.next; omega
theorem Heap.spent_newG (h : Heap) (cs : List AVal) {j : Nat} (hj : h.n0 ≤ j) : (h.newG cs).spent j = if j = h.next then false else h.spent j := by
  show ((h.sp.set h.cnt none).get (j - h.n0)).isSome = _
  rw [Tr.get_set]
  unfold Heap.next Heap.spent
  by_cases e : j = h.n0 + h.cnt
  · rw [if_pos e, if_pos (by omega)]; rfl
  · rw [if_neg e, if_neg (by omega)]
theorem Heap.cls_app (h : Heap) {r b : Nat} (cs : List AVal) (hr : h.cls b = some r) (j : Nat) : (h.app r b cs).cls j = if j = h.next then some r else h.cls j :=
  Heap.cls_set rfl rfl rfl fun r e => by cases e; have := Heap.cls_eq hr; omega
theorem Heap.spent_app (h : Heap) {r b : Nat} (cs : List AVal) (hb : h.n0 ≤ b) {j : Nat} (hj : h.n0 ≤ j) : (h.app r b cs).spent j = if j = h.next then false else if j = b then true else h.spent j := by
  show (((h.sp.set (b - h.n0) (some ())).set h.cnt none).get (j - h.n0)).isSome = _
  rw [Tr.get_set, Tr.get_set]
  unfold Heap.next Heap.spent
  by_cases e : j = h.n0 + h.cnt
  · rw [if_pos e, if_pos (by omega)]; rfl
  · rw [if_neg e, if_neg (by omega)]
    by_cases e2 : j = b
    · rw [if_pos e2, if_pos (by omega)]; rfl
    · rw [if_neg e2, if_neg (by omega)]

theorem Heap.get_fresh {h h' : Heap} {cs : List AVal} (hn : h'.n0 = h.n0) (hb : h'.base = h.base) (hcnt : h'.cnt = h.cnt + 1) (ht : h'.t = h.t.set h.cnt (some cs)) (hu : ∀ j, j ≠ h.next → h'.up j = h.up j) (hu2 : h'.up h.next = true) (j : Nat) :
    h'.get j = if j = h.next then some cs else h.get j := by
  by_cases e : j = h.next
  · subst e
    rw [if_pos rfl]
    unfold Heap.get
    rw [hu2, hn, hcnt, ht, Tr.get_set]
    unfold Heap.next
    rw [if_neg (by omega), if_pos (by omega), if_pos rfl, if_pos (by omega)]
  · rw [if_neg e]
    unfold Heap.next at e
    refine (show h'.get j = h.get j from ?_)
    unfold Heap.get
    rw [hu j e, hn, hcnt, ht, hb, Tr.get_set]
    by_cases hj : j < h.n0
    · rw [if_pos hj, if_pos hj]
    · rw [if_neg hj, if_neg hj]
      by_cases hj2 : j < h.n0 + h.cnt
      · rw [if_pos hj2, if_pos (by omega), if_neg (show ¬ j - h.n0 = h.cnt by omega)]
      · rw [if_neg hj2, if_neg (by omega)]

theorem Heap.get_new (h : Heap) (m : Bool) (cs : List AVal) (j : Nat) : (h.new m cs).get j = if j = h.next then some cs else h.get j :=
  Heap.get_fresh (h := h) (h' := h.new m cs) rfl rfl rfl rfl (fun j _ => Heap.up_congr rfl (Heap.cls_new h m cs j) fun _ _ => rfl) (Heap.up_none (by rw [Heap.cls_new]; exact Heap.cls_ge (h := h) (Nat.le_refl _))) j

theorem Heap.get_newG (h : Heap) (cs : List AVal) (j : Nat) : (h.newG cs).get j = if j = h.next then some cs else h.get j := by
  refine Heap.get_fresh (h := h) (h' := h.newG cs) rfl rfl rfl rfl (fun j hj => Heap.up_congr rfl (by rw [Heap.cls_newG, if_neg hj]) fun r e => ?_) ?_ j
  · have := Heap.cls_eq e
    show (h.lo.set h.cnt none).get (r - h.n0) = _
    rw [Tr.get_set, if_neg (by unfold Heap.next at *; omega)]
  · unfold Heap.up
    rw [Heap.cls_newG, if_pos rfl]
    simp only
    have : (h.newG cs).lo.get (h.next - (h.newG cs).n0) = none := by
      show (h.lo.set h.cnt none).get (h.next - h.n0) = none
      rw [Tr.get_set, if_pos (by unfold Heap.next; omega)]
    rw [this]

theorem Heap.get_app (h : Heap) {r b : Nat} (cs : List AVal) (hb : h.n0 ≤ b) (hr : h.cls b = some r) (hu : h.up b = true) (hx : h.only r = false) (j : Nat) : (h.app r b cs).get j = if j = h.next then some cs else h.get j := by
  refine Heap.get_fresh (h := h) (h' := h.app r b cs) rfl rfl rfl rfl (fun j hj => Heap.up_congr rfl (by rw [Heap.cls_app h cs hr, if_neg hj]) fun _ _ => rfl) ?_ j
  unfold Heap.up at hu ⊢
  rw [Heap.cls_app h cs hr, if_pos rfl]
  rw [hr] at hu
  simp only at hu ⊢
  show (match h.lo.get (r - h.n0) with
    | none => true
    | some (l, x) => if x then decide (h.next = l) else decide (l ≤ h.next)) = true
  have hon : h.only r = false := hx
  unfold Heap.only at hon
  split at hu
  · rename_i e; rw [e]
  · rename_i l x e
    rw [e] at hon ⊢
    simp only at hon
    subst hon
    simp only [Bool.false_eq_true, if_false, decide_eq_true_eq] at hu ⊢
    have := (Heap.cls_eq hr).2.2
    omega

/-- Does j fall when b is written? -/
def Heap.mate (h : Heap) (b j : Nat) : Prop := j ≠ b ∧ ∃ r, h.cls b = some r ∧ h.cls j = some r ∧ (j < b ∨ h.spent b = true)

theorem Heap.cls_putB (h : Heap) (b : Nat) (x : List AVal) (j : Nat) : (h.putB b x).cls j = h.cls j := by
  unfold Heap.putB
  split <;> rfl
theorem Heap.spent_putB (h : Heap) (b : Nat) (x : List AVal) (j : Nat) : (h.putB b x).spent j = h.spent j := by
  unfold Heap.putB
  split <;> rfl
theorem Heap.n0_putB (h : Heap) (b : Nat) (x : List AVal) : (h.putB b x).n0 = h.n0 := by
  unfold Heap.putB
  split <;> rfl
theorem Heap.next_putB (h : Heap) (b : Nat) (x : List AVal) : (h.putB b x).next = h.next := by
  unfold Heap.putB
  split <;> rfl
theorem Heap.isM_putB (h : Heap) (b : Nat) (x : List AVal) (j : Nat) : (h.putB b x).isM j = h.isM j := by
  unfold Heap.putB
  split <;> rfl

theorem Heap.get_putB (h : Heap) {b : Nat} (hb : h.n0 ≤ b) (hb2 : b < h.next) (hu : h.up b = true) (x : List AVal) (j : Nat) :
    (j = b → (h.putB b x).get j = some x) ∧ (h.mate b j → (h.putB b x).get j = none) ∧ (j ≠ b → ¬ h.mate b j → (h.putB b x).get j = h.get j) := by
  unfold Heap.putB
  cases hc : h.cls b with
  | none =>
    simp only
    rw [Heap.get_setB h hb hb2 hu]
    refine ⟨fun e => if_pos e, fun ⟨_, r, q, _⟩ => ?_, fun e _ => if_neg e⟩
    rw [hc] at q; cases q
  | some r =>
    simp only
    obtain ⟨r1, r2, r3⟩ := Heap.cls_eq hc
    have hcl : ∀ j, Heap.cls { h with t := h.t.set (b - h.n0) (some x), lo := h.lo.set (r - h.n0) (some (b, h.spent b || h.only r)) } j = h.cls j := fun _ => rfl
    have hlo : ∀ r2, h.n0 ≤ r2 → Tr.get (h.lo.set (r - h.n0) (some (b, h.spent b || h.only r))) (r2 - h.n0) = if r2 = r then some (b, h.spent b || h.only r) else h.lo.get (r2 - h.n0) := fun r2 k => by
      rw [Tr.get_set]
      by_cases e : r2 = r
      · rw [if_pos e, if_pos (by rw [e])]
      · rw [if_neg e, if_neg (by omega)]
    refine ⟨fun e => ?_, fun ⟨q1, r', q2, q3, q4⟩ => ?_, fun e q => ?_⟩
    · subst e
      unfold Heap.get
      simp only
      rw [if_neg (by omega), if_pos (by unfold Heap.next at hb2; exact hb2), Tr.get_set, if_pos rfl]
      have : Heap.up { h with t := h.t.set (j - h.n0) (some x), lo := h.lo.set (r - h.n0) (some (j, h.spent j || h.only r)) } j = true := by
        unfold Heap.up
        rw [hcl, hc]
        simp only
        rw [hlo r r1, if_pos rfl]
        simp
      rw [if_pos this]
    · rw [hc] at q2; cases q2
      obtain ⟨s1, s2, s3⟩ := Heap.cls_eq q3
      have : Heap.up { h with t := h.t.set (b - h.n0) (some x), lo := h.lo.set (r - h.n0) (some (b, h.spent b || h.only r)) } j = false := by
        unfold Heap.up
        rw [hcl, q3]
        simp only
        rw [hlo r r1, if_pos rfl]
        simp only
        split
        · simp [q1]
        · rename_i z
          rcases q4 with q4 | q4
          · simp; omega
          · rw [q4] at z; simp at z
      unfold Heap.get
      simp only
      rw [if_neg (by omega), this]
      split <;> rfl
    · by_cases hj : h.n0 ≤ j
      · refine Heap.get_congr rfl rfl Iff.rfl ?_ ?_
        · unfold Heap.up
          rw [hcl]
          cases hcj : h.cls j with
          | none => rfl
          | some r2 =>
            simp only
            obtain ⟨s1, s2, s3⟩ := Heap.cls_eq hcj
            rw [hlo r2 s1]
            by_cases e2 : r2 = r
            · subst e2
              rw [if_pos rfl]
              have hbj : b < j ∧ h.spent b = false := by
                rcases Nat.lt_trichotomy j b with z | z | z
                · exact absurd ⟨e, _, hc, hcj, .inl z⟩ q
                · exact absurd z e
                · refine ⟨z, ?_⟩
                  cases hs : h.spent b with
                  | false => rfl
                  | true => exact absurd ⟨e, _, hc, hcj, .inr hs⟩ q
              unfold Heap.up at hu
              rw [hc] at hu
              simp only at hu
              unfold Heap.only
              rw [hbj.2]
              split at hu
              · rename_i z
                simp only [z]
                simp; omega
              · rename_i l x z
                simp only [z]
                cases x
                · simp only [Bool.false_eq_true, if_false, decide_eq_true_eq] at hu
                  simp; omega
                · simp only [if_true, decide_eq_true_eq] at hu
                  simp; omega
            · rw [if_neg e2]
        · show (h.t.set (b - h.n0) (some x)).get (j - h.n0) = _
          rw [Tr.get_set, if_neg (by omega)]
      · unfold Heap.get
        simp only
        rw [if_pos (by omega), if_pos (by omega)]

theorem Heap.put_eq {h h' : Heap} {b off : Nat} {vs : List AVal} (e : h.put b off vs = some h') :
    h.n0 ≤ b ∧ b < h.next ∧ ∃ cs, h.get b = some cs ∧ off + vs.length ≤ cs.length ∧ h' = h.putB b (splice cs off vs) := by
  simp only [Heap.put] at e
  split at e
  · cases e
  · rename_i hb
    split at e
    · rename_i cs hcs
      split at e
      · rename_i hl; cases e; exact ⟨by omega, Heap.lt_of_get (by omega) hcs, cs, hcs, hl, rfl⟩
      · cases e
    · cases e

theorem splice_length {cs vs : List AVal} {off : Nat} (h : off + vs.length ≤ cs.length) : (splice cs off vs).length = cs.length := by
  simp [splice]; omega

theorem splice_get {cs vs : List AVal} {off : Nat} (h : off + vs.length ≤ cs.length) (i : Nat) :
    (splice cs off vs)[i]? = if off ≤ i ∧ i < off + vs.length then vs[i - off]? else cs[i]? := by
  simp only [splice]
  by_cases h1 : i < off
  · rw [if_neg (by omega), List.append_assoc, List.getElem?_append_left (by simp; omega), List.getElem?_take, if_pos h1]
  · by_cases h2 : i < off + vs.length
    · rw [if_pos (by omega), List.append_assoc, List.getElem?_append_right (by simp; omega), List.getElem?_append_left (by simp; omega)]
      congr 1; simp; omega
    · rw [if_neg (by omega), List.getElem?_append_right (by simp; omega), List.getElem?_drop]
      congr 1; simp; omega

end Go.Ab
