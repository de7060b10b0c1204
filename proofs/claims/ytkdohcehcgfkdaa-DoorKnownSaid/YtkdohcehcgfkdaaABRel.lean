/-
  The abstract machine: how its values and its heap stand to the model's.
-/
import Derived.Test.YtkdohcehcgfkdaaABDef
set_option linter.unusedVariables false
set_option linter.unusedSimpArgs false
namespace Go.Ab

structure RLoc where
  blk : Nat
  shift : Nat
  tot : Nat

abbrev Ren := Nat → Option RLoc

def tr (n0 : Nat) (ρ : Ren) (b off : Nat) : Option Addr :=
  if b < n0 then some ⟨b, off, none⟩ else match ρ b with
    | some l => some ⟨l.blk, l.shift + off, none⟩
    | none => none

mutual
inductive VR (n0 : Nat) (ρ : Ren) : AVal → Value → Prop where
  | bool (b : Bool) : VR n0 ρ (.bool b) (.bool b)
  | int (k : IntKind) (n : Int) : VR n0 ρ (.int k n) (.int k n)
  | flt (k : FloatKind) (b : Nat) : VR n0 ρ (.flt k b) (.float k b)
  | str (s : ByteArray) : VR n0 ρ (.str s) (.string s)
  | nilp : VR n0 ρ .nilp (.pointer none)
  | ptr {b off : Nat} {a : Addr} : tr n0 ρ b off = some a → VR n0 ρ (.ptr b off) (.pointer (some a))
  | nils : VR n0 ρ .nils (.slice none 0 0)
  | slx {b off len cap sz : Nat} {a a' : Addr} : tr n0 ρ b off = some a → (cap = 0 ∨ a' = a) → len ≤ cap → VR n0 ρ (.sl b off len cap sz true) (.slice (some a') len cap)
  | slg {b off len cap sz cap' : Nat} {l : RLoc} {a' : Addr} : n0 ≤ b → ρ b = some l → (cap' = 0 ∨ (a' = ⟨l.blk, l.shift + off, none⟩ ∧ l.shift + off + cap' * sz = l.tot)) → cap ≤ cap' → len ≤ cap →
      VR n0 ρ (.sl b off len cap sz false) (.slice (some a') len cap')
  | fn {f : FuncId} {x y : List AVal} {x' y' : List Value} : VRs n0 ρ x x' → VRs n0 ρ y y' → VR n0 ρ (.fn f x y) (.func (.func f) x'.toArray y'.toArray)
  | nilf : VR n0 ρ .nilf .nilFunc
  | iface {t : TypeId} {v : AVal} {v' : Value} : VR n0 ρ v v' → VR n0 ρ (.iface t v) (.iface t v')
  | nili : VR n0 ρ .nili .nilIface
  | agg {x : List AVal} {x' : List Value} : VRs n0 ρ x x' → VR n0 ρ (.agg x) (.agg x'.toArray)
  | tup {x : List AVal} {x' : List Value} : VRs n0 ρ x x' → VR n0 ρ (.tup x) (.tuple x'.toArray)
  | opq (v : Value) : VR n0 ρ .opq v
inductive VRs (n0 : Nat) (ρ : Ren) : List AVal → List Value → Prop where
  | nil : VRs n0 ρ [] []
  | cons {v : AVal} {v' : Value} {r : List AVal} {r' : List Value} : VR n0 ρ v v' → VRs n0 ρ r r' → VRs n0 ρ (v :: r) (v' :: r')
end

def Ren.le (ρ ρ' : Ren) : Prop := ∀ b l, ρ b = some l → ρ' b = some l
theorem Ren.le_refl (ρ : Ren) : ρ.le ρ := fun _ _ h => h
theorem Ren.le_trans {a b c : Ren} (h : a.le b) (k : b.le c) : a.le c := fun x l e => k x l (h x l e)

theorem tr_mono {n0 : Nat} {ρ ρ' : Ren} (h : ρ.le ρ') {b off : Nat} {a : Addr} (e : tr n0 ρ b off = some a) : tr n0 ρ' b off = some a := by
  unfold tr at *
  split
  · rename_i hb; simpa [hb] using e
  · rename_i hb
    simp only [hb, if_false] at e
    cases hr : ρ b with
    | none => rw [hr] at e; cases e
    | some l => rw [hr] at e; rw [h _ _ hr]; exact e

mutual
theorem VR.mono {n0 : Nat} {ρ ρ' : Ren} (h : ρ.le ρ') : ∀ {v : AVal} {v' : Value}, VR n0 ρ v v' → VR n0 ρ' v v'
  | _, _, .bool b => .bool b
  | _, _, .int k n => .int k n
  | _, _, .flt k b => .flt k b
  | _, _, .str s => .str s
  | _, _, .nilp => .nilp
  | _, _, .ptr e => .ptr (tr_mono h e)
  | _, _, .nils => .nils
  | _, _, .slx e c d => .slx (tr_mono h e) c d
  | _, _, .slg a b c d e => .slg a (h _ _ b) c d e
  | _, _, .fn a b => .fn (VRs.mono h a) (VRs.mono h b)
  | _, _, .nilf => .nilf
  | _, _, .iface a => .iface (VR.mono h a)
  | _, _, .nili => .nili
  | _, _, .agg a => .agg (VRs.mono h a)
  | _, _, .tup a => .tup (VRs.mono h a)
  | _, _, .opq v => .opq v
theorem VRs.mono {n0 : Nat} {ρ ρ' : Ren} (h : ρ.le ρ') : ∀ {x : List AVal} {x' : List Value}, VRs n0 ρ x x' → VRs n0 ρ' x x'
  | _, _, .nil => .nil
  | _, _, .cons a b => .cons (VR.mono h a) (VRs.mono h b)
end

section
variable {n0 : Nat} {ρ : Ren}

theorem VRs.length {x : List AVal} {x' : List Value} (h : VRs n0 ρ x x') : x.length = x'.length := by
  induction x generalizing x' with
  | nil => cases h; rfl
  | cons v r ih => cases h with | cons a b => simp [ih b]

theorem VRs.get {x : List AVal} {x' : List Value} (h : VRs n0 ρ x x') {i : Nat} {v : AVal} (e : x[i]? = some v) : ∃ v', x'[i]? = some v' ∧ VR n0 ρ v v' := by
  induction x generalizing x' i with
  | nil => simp at e
  | cons u r ih =>
    cases h with
    | cons a b =>
      cases i with
      | zero => simp only [List.getElem?_cons_zero, Option.some.injEq] at e; subst e; exact ⟨_, rfl, a⟩
      | succ i => simp only [List.getElem?_cons_succ] at e ⊢; exact ih b e

theorem VRs.of_get {x : List AVal} {x' : List Value} (hl : x.length = x'.length) (h : ∀ (i : Nat) (v : AVal) (v' : Value), x[i]? = some v → x'[i]? = some v' → VR n0 ρ v v') : VRs n0 ρ x x' := by
  induction x generalizing x' with
  | nil => cases x' with | nil => exact .nil | cons _ _ => simp at hl
  | cons u r ih =>
    cases x' with
    | nil => simp at hl
    | cons u' r' =>
      exact .cons (h 0 u u' rfl rfl) (ih (by simpa using hl) fun i v v' e e' => h (i + 1) v v' (by simpa using e) (by simpa using e'))

theorem VRs.append {x y : List AVal} {x' y' : List Value} (h : VRs n0 ρ x x') (k : VRs n0 ρ y y') : VRs n0 ρ (x ++ y) (x' ++ y') := by
  induction x generalizing x' with
  | nil => cases h; exact k
  | cons u r ih => cases h with | cons a b => exact .cons a (ih b)

theorem VRs.take {x : List AVal} {x' : List Value} (h : VRs n0 ρ x x') (n : Nat) : VRs n0 ρ (x.take n) (x'.take n) := by
  induction x generalizing x' n with
  | nil => cases h; simp; exact .nil
  | cons u r ih =>
    cases h with
    | cons a b => cases n with
      | zero => simp; exact .nil
      | succ n => exact .cons a (ih b n)

theorem VRs.drop {x : List AVal} {x' : List Value} (h : VRs n0 ρ x x') (n : Nat) : VRs n0 ρ (x.drop n) (x'.drop n) := by
  induction x generalizing x' n with
  | nil => cases h; simp; exact .nil
  | cons u r ih =>
    cases h with
    | cons a b => cases n with
      | zero => exact .cons a b
      | succ n => exact ih b n

theorem VR.cells {v : AVal} {v' : Value} (h : VR n0 ρ v v') (hv : v ≠ .opq) : VRs n0 ρ v.cells v'.cells.toList := by
  cases h <;> simp only [AVal.cells, Value.cells] <;> first | exact absurd rfl hv | skip
  all_goals first
    | assumption
    | (refine .cons ?_ .nil; constructor <;> assumption)
    | (refine .cons ?_ .nil; constructor; done)

mutual
theorem toV_eq : ∀ {v : AVal} {x y : Value}, v.toV = some x → VR n0 ρ v y → y = x
  | .bool _, _, _, e, h => by cases h; simp only [AVal.toV, Option.some.injEq] at e; exact e
  | .int _ _, _, _, e, h => by cases h; simp only [AVal.toV, Option.some.injEq] at e; exact e
  | .flt _ _, _, _, e, h => by cases h; simp only [AVal.toV, Option.some.injEq] at e; exact e
  | .str _, _, _, e, h => by cases h; simp only [AVal.toV, Option.some.injEq] at e; exact e
  | .nilp, _, _, e, h => by cases h; simp only [AVal.toV, Option.some.injEq] at e; exact e
  | .ptr _ _, _, _, e, h => by simp [AVal.toV] at e
  | .nils, _, _, e, h => by cases h; simp only [AVal.toV, Option.some.injEq] at e; exact e
  | .sl .., _, _, e, h => by simp [AVal.toV] at e
  | .fn .., _, _, e, h => by simp [AVal.toV] at e
  | .nilf, _, _, e, h => by cases h; simp only [AVal.toV, Option.some.injEq] at e; exact e
  | .iface t v, _, _, e, h => by
    cases h with
    | iface k =>
      simp only [AVal.toV] at e
      split at e
      · rename_i x hx; cases e; rw [toV_eq hx k]
      · cases e
  | .nili, _, _, e, h => by cases h; simp only [AVal.toV, Option.some.injEq] at e; exact e
  | .agg cs, _, _, e, h => by
    cases h with
    | agg k =>
      simp only [AVal.toV] at e
      split at e
      · rename_i x hx; cases e; rw [toVs_eq hx k]
      · cases e
  | .tup cs, _, _, e, h => by
    cases h with
    | tup k =>
      simp only [AVal.toV] at e
      split at e
      · rename_i x hx; cases e; rw [toVs_eq hx k]
      · cases e
  | .opq, _, _, e, h => by simp [AVal.toV] at e
theorem toVs_eq : ∀ {v : List AVal} {x y : List Value}, AVal.toVs v = some x → VRs n0 ρ v y → y = x
  | [], _, _, e, h => by cases h; simp only [AVal.toVs, Option.some.injEq] at e; exact e
  | v :: r, _, _, e, h => by
    cases h with
    | cons a b =>
      simp only [AVal.toVs] at e
      split at e
      · rename_i x y hx hy; cases e; rw [toV_eq hx a, toVs_eq hy b]
      · cases e
end

end

mutual
theorem ofV_VR {n0 : Nat} {ρ : Ren} (m : Nat) (hm : m ≤ n0) : ∀ v : Value, VR n0 ρ (ofV m v) v
  | .bool b => .bool b
  | .int k n => .int k n
  | .float k b => .flt k b
  | .string s => .str s
  | .pointer none => .nilp
  | .pointer (some ⟨b, off, none⟩) => by
    simp only [ofV]; split
    · exact .ptr (by simp only [tr]; rw [if_pos (by omega)])
    · exact .opq _
  | .pointer (some ⟨b, off, some s⟩) => .opq _
  | .slice none 0 0 => .nils
  | .slice none (n + 1) c => .opq _
  | .slice none 0 (c + 1) => .opq _
  | .slice (some ⟨b, off, none⟩) len cap => by
    simp only [ofV]; split
    · rename_i h; exact .slx (by simp only [tr]; rw [if_pos (by omega)]) (.inr rfl) h.2
    · exact .opq _
  | .slice (some ⟨b, off, some s⟩) len cap => .opq _
  | .func (.func f) ⟨a⟩ ⟨c⟩ => .fn (ofVs_VRs m hm a) (ofVs_VRs m hm c)
  | .func (.method _) _ _ => .opq _
  | .func (.methodOf _ _) _ _ => .opq _
  | .func (.via _ _ _ _) _ _ => .opq _
  | .func (.yield _) _ _ => .opq _
  | .nilFunc => .nilf
  | .iface t v => .iface (ofV_VR m hm v)
  | .nilIface => .nili
  | .agg ⟨cs⟩ => .agg (ofVs_VRs m hm cs)
  | .tuple ⟨cs⟩ => .tup (ofVs_VRs m hm cs)
  | .complex _ _ _ => .opq _
  | .map _ => .opq _
  | .chan _ => .opq _
theorem ofVs_VRs {n0 : Nat} {ρ : Ren} (m : Nat) (hm : m ≤ n0) : ∀ l : List Value, VRs n0 ρ (ofVs m l) l
  | [] => .nil
  | v :: r => .cons (ofV_VR m hm v) (ofVs_VRs m hm r)
end

/-! ## The heap -/

theorem Tr.get_setF : ∀ (n : Nat) (t : Tr) (k : Nat) (x : Option (List AVal)) (j : Nat), k < n → (Tr.setF n t k x).get j = if j = k then x else t.get j
  | 0, _, _, _, _, h => absurd h (Nat.not_lt_zero _)
  | n + 1, .nil, k, x, j, h => by
    simp only [Tr.setF]
    by_cases hk : k = 0
    · subst hk; simp only [if_true, Tr.get]
      split <;> simp_all
    · simp only [hk, if_false]
      by_cases h2 : k % 2 = 1
      · simp only [h2, if_true, Tr.get]
        by_cases hj : j = 0
        · subst hj; rw [if_pos rfl, if_neg (by omega)]
        · rw [if_neg hj]
          by_cases j2 : j % 2 = 1
          · rw [if_pos j2, Tr.get_setF n .nil (k / 2) x (j / 2) (by omega)]
            simp only [Tr.get]
            by_cases e : j = k
            · subst e; simp
            · rw [if_neg (by omega), if_neg e]
          · rw [if_neg j2, if_neg (by intro e; subst e; exact j2 h2)]
      · simp only [h2, if_false, Tr.get]
        by_cases hj : j = 0
        · subst hj; rw [if_pos rfl, if_neg (by omega)]
        · rw [if_neg hj]
          by_cases j2 : j % 2 = 1
          · rw [if_pos j2, if_neg (by intro e; subst e; exact h2 j2)]
          · rw [if_neg j2, Tr.get_setF n .nil (k / 2 - 1) x (j / 2 - 1) (by omega)]
            simp only [Tr.get]
            by_cases e : j = k
            · subst e; simp
            · rw [if_neg (by omega), if_neg e]
  | n + 1, .node v l r, k, x, j, h => by
    simp only [Tr.setF]
    by_cases hk : k = 0
    · subst hk; simp only [if_true, Tr.get]
      split <;> simp_all
    · simp only [hk, if_false]
      by_cases h2 : k % 2 = 1
      · simp only [h2, if_true, Tr.get]
        by_cases hj : j = 0
        · subst hj; rw [if_pos rfl, if_neg (by omega)]; simp
        · rw [if_neg hj, if_neg hj]
          by_cases j2 : j % 2 = 1
          · rw [if_pos j2, if_pos j2, Tr.get_setF n l (k / 2) x (j / 2) (by omega)]
            by_cases e : j = k
            · subst e; simp
            · rw [if_neg (by omega), if_neg e]
          · rw [if_neg j2, if_neg j2, if_neg (by intro e; subst e; exact j2 h2)]
      · simp only [h2, if_false, Tr.get]
        by_cases hj : j = 0
        · subst hj; rw [if_pos rfl, if_neg (by omega)]; simp
        · rw [if_neg hj, if_neg hj]
          by_cases j2 : j % 2 = 1
          · rw [if_pos j2, if_pos j2, if_neg (by intro e; subst e; exact h2 j2)]
          · rw [if_neg j2, if_neg j2, Tr.get_setF n r (k / 2 - 1) x (j / 2 - 1) (by omega)]
            by_cases e : j = k
            · subst e; simp
            · rw [if_neg (by omega), if_neg e]

theorem Tr.get_set (t : Tr) (k : Nat) (x : Option (List AVal)) (j : Nat) : (t.set k x).get j = if j = k then x else t.get j :=
  Tr.get_setF (k + 1) t k x j (Nat.lt_succ_self k)

theorem Heap.lt_of_get {h : Heap} {b : Nat} {cs : List AVal} (hb : h.n0 ≤ b) (e : h.get b = some cs) : b < h.next := by
  unfold Heap.get at e
  rw [if_neg (by omega)] at e
  split at e
  · rename_i k; exact k
  · cases e

theorem Heap.get_ge {h : Heap} {b : Nat} (hb : h.next ≤ b) : h.get b = none := by
  unfold Heap.next at hb
  unfold Heap.get
  rw [if_neg (by omega), if_neg (by omega)]

theorem Heap.get_setB (h : Heap) {b : Nat} (hb : h.n0 ≤ b) (hb2 : b < h.next) (x : Option (List AVal)) (j : Nat) : (h.setB b x).get j = if j = b then x else h.get j := by
  unfold Heap.next at hb2
  show (if j < h.n0 then h.base j else if j < h.n0 + h.cnt then (h.t.set (b - h.n0) x).get (j - h.n0) else none) =
    if j = b then x else (if j < h.n0 then h.base j else if j < h.n0 + h.cnt then h.t.get (j - h.n0) else none)
  by_cases hj : j < h.n0
  · rw [if_pos hj, if_pos hj, if_neg (by omega)]
  · rw [if_neg hj, if_neg hj]
    by_cases hj2 : j < h.n0 + h.cnt
    · rw [if_pos hj2, if_pos hj2, Tr.get_set]
      by_cases e : j = b
      · subst e; simp
      · rw [if_neg (by omega), if_neg e]
    · rw [if_neg hj2, if_neg hj2, if_neg (by omega)]

theorem Heap.get_new (h : Heap) (cs : List AVal) (j : Nat) : (h.new cs).get j = if j = h.next then some cs else h.get j := by
  show (if j < h.n0 then h.base j else if j < h.n0 + (h.cnt + 1) then (h.t.set h.cnt (some cs)).get (j - h.n0) else none) =
    if j = h.n0 + h.cnt then some cs else (if j < h.n0 then h.base j else if j < h.n0 + h.cnt then h.t.get (j - h.n0) else none)
  by_cases hj : j < h.n0
  · rw [if_pos hj, if_pos hj, if_neg (by omega)]
  · rw [if_neg hj, if_neg hj]
    by_cases hj2 : j < h.n0 + (h.cnt + 1)
    · rw [if_pos hj2, Tr.get_set]
      by_cases e : j = h.n0 + h.cnt
      · subst e; simp
      · rw [if_neg (by omega), if_neg e, if_pos (by omega)]
    · rw [if_neg hj2, if_neg (by omega), if_neg (by omega)]

theorem Heap.get_kill (h : Heap) {b : Nat} (hb : h.n0 ≤ b) (j : Nat) : (h.kill b).get j = if j = b then none else h.get j := by
  by_cases hb2 : b < h.next
  · exact Heap.get_setB h hb hb2 none j
  · show (if j < h.n0 then h.base j else if j < h.n0 + h.cnt then (h.t.set (b - h.n0) none).get (j - h.n0) else none) =
      if j = b then none else (if j < h.n0 then h.base j else if j < h.n0 + h.cnt then h.t.get (j - h.n0) else none)
    unfold Heap.next at hb2
    by_cases hj : j < h.n0
    · rw [if_pos hj, if_pos hj, if_neg (by omega)]
    · rw [if_neg hj, if_neg hj]
      by_cases hj2 : j < h.n0 + h.cnt
      · rw [if_pos hj2, if_pos hj2, Tr.get_set, if_neg (by omega), if_neg (by omega)]
      · rw [if_neg hj2, if_neg hj2]; split <;> rfl

theorem Heap.put_eq {h h' : Heap} {b off : Nat} {vs : List AVal} (e : h.put b off vs = some h') :
    h.n0 ≤ b ∧ b < h.next ∧ ∃ cs, h.get b = some cs ∧ off + vs.length ≤ cs.length ∧ h' = h.setB b (some (splice cs off vs)) := by
  simp only [Heap.put] at e
  split at e
  · cases e
  · rename_i hb
    split at e
    · rename_i cs hcs
      split at e
      · rename_i hl; cases e; exact ⟨by omega, Heap.lt_of_get (by omega) hcs, cs, hcs, hl, rfl⟩
      · cases e
    · cases e

theorem splice_length {cs vs : List AVal} {off : Nat} (h : off + vs.length ≤ cs.length) : (splice cs off vs).length = cs.length := by
  simp [splice]; omega

theorem splice_get {cs vs : List AVal} {off : Nat} (h : off + vs.length ≤ cs.length) (i : Nat) :
    (splice cs off vs)[i]? = if off ≤ i ∧ i < off + vs.length then vs[i - off]? else cs[i]? := by
  simp only [splice]
  by_cases h1 : i < off
  · rw [if_neg (by omega), List.append_assoc, List.getElem?_append_left (by simp; omega), List.getElem?_take, if_pos h1]
  · by_cases h2 : i < off + vs.length
    · rw [if_pos (by omega), List.append_assoc, List.getElem?_append_right (by simp; omega), List.getElem?_append_left (by simp; omega)]
      congr 1; simp; omega
    · rw [if_neg (by omega), List.getElem?_append_right (by simp; omega), List.getElem?_drop]
      congr 1; simp; omega

end Go.Ab
