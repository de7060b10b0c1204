/-
  Reckoning in the S-forms: heaps that grow; objects, rows, rows that grow.
-/
import Derived.Test.YtochkdifpgelmaaABT
set_option linter.unusedVariables false
set_option linter.unusedSimpArgs false
namespace Go.Ab

/-- What is to be shown, put out of simp's sight. -/
theorem Tells.prot {α : Type} {r : Nat → Res α} {Q : α → Heap → Prop} (k : ∀ Q', (∀ a h, Q a h → Q' a h) → Tells r Q') : Tells r Q := k Q fun _ _ q => q

theorem n0_le (h : Heap) : h.n0 ≤ h.next := by unfold Heap.next; omega
theorem get_lt {h : Heap} {b : Nat} {x : List AVal} (e : h.get b = some x) : b < h.next := by
  rcases Nat.lt_or_ge b h.next with k | k
  · exact k
  · rw [Heap.get_ge k] at e; cases e

/-! ### marks -/

theorem isM_eq {h : Heap} {b : Nat} (e : h.isM b = true) : h.n0 ≤ b ∧ b < h.next := by
  unfold Heap.isM at e
  split at e
  · rename_i k; exact k
  · cases e
theorem isM_ge {h : Heap} {b : Nat} (e : h.next ≤ b) : h.isM b = false := by
  cases q : h.isM b with
  | false => rfl
  | true => have := (isM_eq q).2; omega
theorem isM_set {h h' : Heap} {x : Option Unit} (hn : h'.n0 = h.n0) (hc : h'.cnt = h.cnt + 1) (hm : h'.mt = h.mt.set h.cnt x) (j : Nat) : h'.isM j = if j = h.next then x.isSome else h.isM j := by
  unfold Heap.isM Heap.next
  rw [hn, hc, hm, Tr.get_set]
  by_cases e : j = h.n0 + h.cnt
  · subst e
    rw [if_pos rfl, if_pos (by omega), if_pos (by omega)]
  · rw [if_neg e]
    by_cases k : h.n0 ≤ j ∧ j < h.n0 + h.cnt
    · rw [if_pos k, if_pos (by omega), if_neg (by omega)]
    · rw [if_neg k, if_neg (by omega)]
theorem isM_new (h : Heap) (m : Bool) (cs : List AVal) (j : Nat) : (h.new m cs).isM j = if j = h.next then m else h.isM j := by
  rw [isM_set (h := h) (h' := h.new m cs) (x := if m then some () else none) rfl rfl rfl]
  cases m <;> rfl
theorem isM_newG (h : Heap) (cs : List AVal) (j : Nat) : (h.newG cs).isM j = if j = h.next then false else h.isM j := isM_set (h := h) (h' := h.newG cs) (x := none) rfl rfl rfl j
theorem isM_app (h : Heap) (r b : Nat) (cs : List AVal) (j : Nat) : (h.app r b cs).isM j = if j = h.next then false else h.isM j := isM_set (h := h) (h' := h.app r b cs) (x := none) rfl rfl rfl j

/-! ### later heaps -/

/-- A later heap. S: objects that may be others, rows that may be spent. -/
structure Ext (S : List Nat) (h h' : Heap) : Prop where
  n0 : h'.n0 = h.n0
  next : h.next ≤ h'.next
  get : ∀ b, (h.isM b = false ∨ b ∉ S) → (h.get b).isSome = true → h'.get b = h.get b
  cls : ∀ b, b < h.next → h'.cls b = h.cls b
  isM : ∀ b, b < h.next → h'.isM b = h.isM b
  sp : ∀ b, h.n0 ≤ b → b < h.next → b ∉ S → h'.spent b = h.spent b
  on : ∀ r, h.n0 ≤ r → r < h.next → h'.only r = h.only r

theorem some_lt {h : Heap} {b : Nat} (e : (h.get b).isSome = true) : b < h.next := by
  cases k : h.get b with
  | none => rw [k] at e; cases e
  | some x => exact get_lt k

theorem Ext.refl {S : List Nat} {h : Heap} : Ext S h h := ⟨rfl, Nat.le_refl _, fun _ _ _ => rfl, fun _ _ => rfl, fun _ _ => rfl, fun _ _ _ _ => rfl, fun _ _ _ => rfl⟩
/-- .. and later still: what is touched then is touched here, or is new. -/
theorem Ext.then {S S' : List Nat} {a b c : Heap} (h : Ext S a b) (k : Ext S' b c) (hs : ∀ x, x ∈ S' → x ∈ S ∨ a.next ≤ x) : Ext S a c where
  n0 := k.n0.trans h.n0
  next := Nat.le_trans h.next k.next
  get := fun x hx hg => by
    have h1 := h.get x hx hg
    have hl := some_lt hg
    have h2 := k.get x (by
      rcases hx with e | e
      · exact .inl ((h.isM x hl).trans e)
      · refine .inr fun q => ?_
        rcases hs x q with z | z
        · exact e z
        · omega) (by rw [h1]; exact hg)
    exact h2.trans h1
  cls := fun x hx => (k.cls x (Nat.lt_of_lt_of_le hx h.next)).trans (h.cls x hx)
  isM := fun x hx => (k.isM x (Nat.lt_of_lt_of_le hx h.next)).trans (h.isM x hx)
  sp := fun x h0 hx hn => (k.sp x (by rw [h.n0]; exact h0) (Nat.lt_of_lt_of_le hx h.next) fun q => by
    rcases hs x q with z | z
    · exact hn z
    · omega).trans (h.sp x h0 hx hn)
  on := fun r h0 hr => (k.on r (by rw [h.n0]; exact h0) (Nat.lt_of_lt_of_le hr h.next)).trans (h.on r h0 hr)
theorem Ext.trans {S : List Nat} {a b c : Heap} (h : Ext S a b) (k : Ext S b c) : Ext S a c := h.then k fun _ q => .inl q
theorem Ext.mono {S S' : List Nat} {a b : Heap} (h : Ext S a b) (hs : ∀ x, x ∈ S → x ∈ S') : Ext S' a b := Ext.refl.then h fun x q => .inl (hs x q)
theorem Ext.of {S : List Nat} {a b : Heap} (h : Ext [] a b) : Ext S a b := h.mono (by simp)
theorem Ext.quiet {S : List Nat} {a b c : Heap} (h : Ext S a b) (k : Ext [] b c) : Ext S a c := h.then k (by simp)

theorem Ext.new (h : Heap) (m : Bool) (cs : List AVal) : Ext [] h (h.new m cs) where
  n0 := rfl
  next := by rw [next_new']; omega
  get := fun b _ hg => by rw [Heap.get_new, if_neg (by have := some_lt hg; omega)]
  cls := fun b _ => Heap.cls_new h m cs b
  isM := fun b hb => by rw [isM_new, if_neg (by omega)]
  sp := fun b _ _ _ => rfl
  on := fun r _ _ => rfl
theorem Ext.newG (h : Heap) (cs : List AVal) : Ext [] h (h.newG cs) where
  n0 := rfl
  next := by rw [next_newG']; omega
  get := fun b _ hg => by rw [Heap.get_newG, if_neg (by have := some_lt hg; omega)]
  cls := fun b hb => by rw [Heap.cls_newG, if_neg (by omega)]
  isM := fun b hb => by rw [isM_newG, if_neg (by omega)]
  sp := fun b h0 hb _ => by rw [Heap.spent_newG h cs h0, if_neg (by omega)]
  on := fun r h0 hr => by
    show (match (h.lo.set h.cnt none).get (r - h.n0) with
      | some (_, x) => x
      | none => false) = h.only r
    rw [Tr.get_set, if_neg (by unfold Heap.next at hr; omega)]
    rfl
theorem Ext.app {h : Heap} {r b : Nat} (cs : List AVal) (hb : h.n0 ≤ b) (hr : h.cls b = some r) (hu : h.up b = true) (hx : h.only r = false) : Ext [b] h (h.app r b cs) where
  n0 := rfl
  next := by rw [next_app']; omega
  get := fun c _ hg => by rw [Heap.get_app h cs hb hr hu hx, if_neg (by have := some_lt hg; omega)]
  cls := fun c hc => by rw [Heap.cls_app h cs hr, if_neg (by omega)]
  isM := fun c hc => by rw [isM_app, if_neg (by omega)]
  sp := fun c h0 hc hn => by rw [Heap.spent_app h cs hb h0, if_neg (by omega), if_neg (by simpa using hn)]
  on := fun r _ _ => rfl

/-- Who began its class. -/
def Heap.root (h : Heap) (b : Nat) : Nat := match h.cls b with
  | some r => r
  | none => b
theorem root_le (h : Heap) (b : Nat) : h.root b ≤ b := by
  unfold Heap.root
  split
  · rename_i r e; exact (Heap.cls_eq e).2.1
  · exact Nat.le_refl _

theorem only_putB (h : Heap) {b r : Nat} (x : List AVal) (hn : h.n0 ≤ r) (hr : h.cls b ≠ some r) : (h.putB b x).only r = h.only r := by
  unfold Heap.putB
  split
  · rfl
  · rename_i r2 e
    show (match (h.lo.set (r2 - h.n0) (some (b, h.spent b || h.only r2))).get (r - h.n0) with
      | some (_, x) => x
      | none => false) = h.only r
    have := Heap.cls_eq e
    rw [Tr.get_set, if_neg (fun q => hr (by rw [e]; congr 1; omega))]
    rfl

/-- A row that came later is written. -/
theorem Ext.putD {S : List Nat} {h0 h : Heap} (e : Ext S h0 h) {b : Nat} {x cs : List AVal} (hb : h.n0 ≤ b) (hg : h.get b = some cs) (hr : h0.next ≤ h.root b) : Ext S h0 (h.putB b x) where
  n0 := (Heap.n0_putB _ _ _).trans e.n0
  next := by rw [Heap.next_putB]; exact e.next
  get := fun c hc hs => by
    have hl := some_lt hs
    have h1 := e.get c hc hs
    obtain ⟨_, _, p3⟩ := Heap.get_putB h hb (get_lt hg) (Heap.up_of_get hb hg) x c
    have hb2 := root_le h b
    rw [p3 (by omega) fun ⟨_, r, q1, q2, _⟩ => by
      have hrr : h.root b = r := by unfold Heap.root; rw [q1]
      have := (Heap.cls_eq q2).2.1
      omega]
    exact h1
  cls := fun c hc => (Heap.cls_putB h b x c).trans (e.cls c hc)
  isM := fun c hc => (Heap.isM_putB h b x c).trans (e.isM c hc)
  sp := fun c h0 hc hn => (Heap.spent_putB h b x c).trans (e.sp c h0 hc hn)
  on := fun r k0 hr' => by
    rw [only_putB h x (by rw [e.n0]; exact k0) fun q => ?_]
    · exact e.on r k0 hr'
    · have : h.root b = r := by unfold Heap.root; rw [q]
      omega

/-! ### objects -/

def Ob (h : Heap) (b : Nat) (cs : List AVal) : Prop := h.get b = some cs ∧ h.isM b = true ∧ h.cls b = none
theorem Ob.lt {h : Heap} {b : Nat} {cs : List AVal} (o : Ob h b cs) : b < h.next := get_lt o.1
theorem Ob.ge {h : Heap} {b : Nat} {cs : List AVal} (o : Ob h b cs) : h.n0 ≤ b := (isM_eq o.2.1).1
theorem Ob.new (h : Heap) (cs : List AVal) : Ob (h.new true cs) h.next cs := ⟨by rw [Heap.get_new, if_pos rfl], by rw [isM_new, if_pos rfl], by rw [Heap.cls_new]; exact Heap.cls_ge (Nat.le_refl _)⟩
theorem Ob.ext {S : List Nat} {h h' : Heap} {b : Nat} {cs : List AVal} (o : Ob h b cs) (e : Ext S h h') (hb : b ∉ S) : Ob h' b cs :=
  ⟨by rw [e.get b (.inr hb) (by rw [o.1]; rfl)]; exact o.1, by rw [e.isM b o.lt]; exact o.2.1, by rw [e.cls b o.lt]; exact o.2.2⟩
theorem Ob.e {h h' : Heap} {b : Nat} {cs : List AVal} (o : Ob h b cs) (e : Ext [] h h') : Ob h' b cs := o.ext e (by simp)
theorem Ob.put {h : Heap} {b : Nat} {cs : List AVal} (o : Ob h b cs) (x : List AVal) : Ob (h.putB b x) b x ∧ Ext [b] h (h.putB b x) := by
  have hp := fun c => Heap.get_putB h o.ge o.lt (Heap.up_of_get o.ge o.1) x c
  refine ⟨⟨(hp b).1 rfl, by rw [Heap.isM_putB]; exact o.2.1, by rw [Heap.cls_putB]; exact o.2.2⟩, ⟨Heap.n0_putB _ _ _, by rw [Heap.next_putB]; exact Nat.le_refl _, fun c hc hs => ?_, fun c _ => Heap.cls_putB _ _ _ c, fun c _ => Heap.isM_putB _ _ _ c, fun c _ _ _ => Heap.spent_putB _ _ _ c, fun r hr _ => only_putB h x hr (by rw [o.2.2]; simp)⟩⟩
  refine (hp c).2.2 (fun q => ?_) fun ⟨_, r, q1, _, _⟩ => ?_
  · subst q
    rcases hc with k | k
    · rw [o.2.1] at k; cases k
    · simp at k
  · rw [o.2.2] at q1; cases q1
theorem Ob.st {h : Heap} {b off n : Nat} {v : AVal} {cs : List AVal} (o : Ob h b cs) (h1 : v.cells.length = n) (h2 : v.cells.all AVal.one = true) (h3 : off + n ≤ cs.length) :
    ∃ h', stR n h (.ptr b off) v = .val aUndef h' ∧ Ob h' b (splice cs off v.cells) ∧ Ext [b] h h' := by
  refine ⟨h.putB b (splice cs off v.cells), ?_, o.put _⟩
  have := o.ge
  simp only [stR, Heap.put]
  rw [if_pos ⟨h1, h2⟩, if_neg (by omega), o.1]
  simp only
  rw [if_pos (by omega)]
/-- All of it. -/
theorem Ob.stN {h : Heap} {b n : Nat} {v : AVal} {cs : List AVal} (o : Ob h b cs) (h1 : v.cells.length = n) (h2 : v.cells.all AVal.one = true) (h3 : cs.length = n) :
    ∃ h', stR n h (.ptr b 0) v = .val aUndef h' ∧ Ob h' b v.cells ∧ Ext [b] h h' := by
  obtain ⟨h', q1, q2, q3⟩ := o.st (off := 0) h1 h2 (by omega)
  refine ⟨h', q1, ?_, q3⟩
  have : splice cs 0 v.cells = v.cells := by simp [splice, h1, ← h3]
  rw [this] at q2
  exact q2

@[simp] theorem killIf_true (h : Heap) (b : Nat) : killIf true h b = h.kill b := (rfl)
theorem Ob.kill {h : Heap} {b : Nat} {cs : List AVal} (o : Ob h b cs) {id : Nat} (h1 : h.n0 ≤ id) (h2 : b ≠ id) : (h.kill id).get b = some cs := by
  rw [Heap.get_kill h h1, if_neg h2]; exact o.1
@[simp] theorem cell_eq (h : Heap) (b o : Nat) : h.cell b o = match h.get b with
  | some cs => cs[o]?
  | none => none := (rfl)
@[simp] theorem ldn_ptr (n : Nat) (h : Heap) (b o : Nat) : ldn n h (.ptr b o) = match h.get b with
    | some cs => if o + n ≤ cs.length then some (.agg ((cs.drop o).take n)) else none
    | none => none := by
  simp only [ldn, Heap.cells]
  cases h.get b with
  | none => rfl
  | some cs => by_cases k : o + n ≤ cs.length <;> simp [k]

/-! ### rows -/

/-- A slice's elements, of n cells each: as they are read. -/
def SlC (h : Heap) (n : Nat) (v : AVal) (css : List (List AVal)) : Prop :=
  (v = .nils ∧ css = []) ∨ ∃ b off cap sz ex B, v = .sl b off css.length cap sz ex ∧ (ex = true ∨ sz = n) ∧ css.length ≤ cap ∧ h.get b = some B ∧ h.isM b = false ∧ off + css.length * n ≤ B.length ∧
    (B.drop off).take (css.length * n) = css.flatten ∧ ∀ c, c ∈ css → c.length = n

theorem SlC.ext {S : List Nat} {h h' : Heap} {n : Nat} {v : AVal} {css : List (List AVal)} (o : SlC h n v css) (e : Ext S h h') : SlC h' n v css := by
  rcases o with o | ⟨b, off, cap, sz, ex, B, h1, h2, h3, h4, h5, h6⟩
  · exact .inl o
  · exact .inr ⟨b, off, cap, sz, ex, B, h1, h2, h3, by rw [e.get b (.inl h5) (by rw [h4]; rfl)]; exact h4, by rw [e.isM b (get_lt h4)]; exact h5, h6⟩
theorem SlC.len {h : Heap} {n : Nat} {v : AVal} {css : List (List AVal)} (o : SlC h n v css) : lenL v = some (.int .i64 css.length) := by
  rcases o with ⟨rfl, rfl⟩ | ⟨b, off, cap, sz, ex, B, rfl, _⟩ <;> simp
theorem SlC.one {h : Heap} {n : Nat} {v : AVal} {css : List (List AVal)} (o : SlC h n v css) : v.one = true := by
  rcases o with ⟨rfl, rfl⟩ | ⟨b, off, cap, sz, ex, B, rfl, _⟩ <;> rfl
theorem SlC.known {h : Heap} {n : Nat} {v : AVal} {css : List (List AVal)} (o : SlC h n v css) : v.known = true := by
  rcases o with ⟨rfl, rfl⟩ | ⟨b, off, cap, sz, ex, B, rfl, _⟩ <;> rfl
theorem SlC.cells {h : Heap} {n : Nat} {v : AVal} {css : List (List AVal)} (o : SlC h n v css) : v.cells = [v] := by
  rcases o with ⟨rfl, rfl⟩ | ⟨b, off, cap, sz, ex, B, rfl, _⟩ <;> rfl
theorem SlC.src {h : Heap} {n : Nat} {v : AVal} {css : List (List AVal)} (o : SlC h n v css) : aSource h n false v = some (css.length, css.flatten) := by
  rcases o with ⟨rfl, rfl⟩ | ⟨b, off, cap, sz, ex, B, rfl, h2, h3, h4, h5, h6, h7, h8⟩
  · rfl
  · simp only [aSource, Heap.cells, h4, Bool.false_eq_true, if_false]
    by_cases hz : css.length = 0
    · have : css = [] := List.eq_nil_of_length_eq_zero hz
      subst this; rfl
    · rw [if_neg hz, if_pos h6, h7]
theorem SlC.lens {h : Heap} {n : Nat} {v : AVal} {css : List (List AVal)} (o : SlC h n v css) : ∀ c, c ∈ css → c.length = n := by
  rcases o with ⟨rfl, rfl⟩ | ⟨b, off, cap, sz, ex, B, rfl, h2, h3, h4, h5, h6, h7, h8⟩
  · simp
  · exact h8
theorem SlC.nil {h : Heap} {n : Nat} : SlC h n .nils [] := .inl ⟨rfl, rfl⟩

theorem flat_len {n : Nat} : ∀ {css : List (List AVal)}, (∀ c, c ∈ css → c.length = n) → css.flatten.length = css.length * n
  | [], _ => by simp
  | c :: r, h => by
    have h1 := h c (by simp)
    have h2 := flat_len (css := r) fun d hd => h d (by simp [hd])
    simp only [List.flatten_cons, List.length_append, List.length_cons, h1, h2, Nat.add_mul, Nat.one_mul]
    omega
theorem flat_at {n : Nat} : ∀ {css : List (List AVal)}, (∀ c, c ∈ css → c.length = n) → ∀ {i : Nat} {c : List AVal}, css[i]? = some c → (css.flatten.drop (i * n)).take n = c
  | [], _, i, c, e => by simp at e
  | d :: r, h, 0, c, e => by
    simp at e; subst e
    have h1 := h d (by simp)
    simp [← h1]
  | d :: r, h, i + 1, c, e => by
    have h1 := h d (by simp)
    have ih := flat_at (css := r) (fun d hd => h d (by simp [hd])) (i := i) (c := c) (by simpa using e)
    rw [List.flatten_cons, Nat.add_mul, Nat.one_mul, Nat.add_comm, ← List.drop_drop, ← h1, List.drop_left, h1]
    exact ih

/-- Cells in a row. -/
structure Elem (h : Heap) (b o : Nat) (B c : List AVal) : Prop where
  get : h.get b = some B
  isM : h.isM b = false
  le : o + c.length ≤ B.length
  eq : (B.drop o).take c.length = c
theorem Elem.ext {S : List Nat} {h h' : Heap} {b o : Nat} {B c : List AVal} (a : Elem h b o B c) (e : Ext S h h') : Elem h' b o B c :=
  ⟨by rw [e.get b (.inl a.isM) (by rw [a.get]; rfl)]; exact a.get, by rw [e.isM b (get_lt a.get)]; exact a.isM, a.le, a.eq⟩
theorem Elem.cell {h : Heap} {b o : Nat} {B c : List AVal} (a : Elem h b o B c) {k : Nat} (hk : k < c.length) : B[o + k]? = c[k]? := by
  have := a.eq
  rw [← this, List.getElem?_take, if_pos (by have := congrArg List.length a.eq; simp at this; omega), List.getElem?_drop]
theorem Elem.cell0 {h : Heap} {b o : Nat} {B c : List AVal} (a : Elem h b o B c) (hk : 0 < c.length) : B[o]? = c[0]? := a.cell (k := 0) hk
theorem Elem.ldk {h : Heap} {b o : Nat} {B c : List AVal} (a : Elem h b o B c) {k : Nat} {x : AVal} (hx : c[k]? = some x) : ld1 h (.ptr b (o + k)) = some x := by
  have hk : k < c.length := (List.getElem?_eq_some_iff.1 hx).1
  simp [a.get, a.cell hk, hx]
theorem Elem.ld0 {h : Heap} {b o : Nat} {B c : List AVal} (a : Elem h b o B c) {x : AVal} (hx : c[0]? = some x) : Go.Ab.ld1 h (.ptr b o) = some x := a.ldk (k := 0) hx
theorem Elem.lda {h : Heap} {b o n : Nat} {B c : List AVal} (a : Elem h b o B c) (hn : c.length = n) : Go.Ab.ldn n h (.ptr b o) = some (.agg c) := by
  have := a.le
  simp only [ldn_ptr, a.get]
  rw [if_pos (by omega), ← hn, a.eq]
theorem Elem.sub {h : Heap} {b o : Nat} {B c : List AVal} (a : Elem h b o B c) (k m : Nat) (hk : k + m ≤ c.length) : Elem h b (o + k) B ((c.drop k).take m) := by
  have h1 := a.le
  have hl : ((c.drop k).take m).length = m := by simp; omega
  refine ⟨a.get, a.isM, by omega, ?_⟩
  rw [hl]
  have h2 := a.eq
  conv => rhs; rw [← h2]
  rw [List.drop_take, List.drop_drop, List.take_take, Nat.min_eq_left (by have := congrArg List.length h2; simp at this; omega)]

theorem SlC.at {h : Heap} {n : Nat} {v : AVal} {css : List (List AVal)} (o : SlC h n v css) {i : Int} {c : List AVal} (h0 : 0 ≤ i) (hc : css[i.toNat]? = some c) :
    ∃ b p B, ixsR n v (.int .i64 i) = some (.ptr b p) ∧ Elem h b p B c := by
  have hlt : i.toNat < css.length := (List.getElem?_eq_some_iff.1 hc).1
  rcases o with ⟨rfl, rfl⟩ | ⟨b, off, cap, sz, ex, B, rfl, h2, h3, h4, h5, h6, h7, h8⟩
  · simp at hc
  · have hcl := h8 c (List.mem_of_getElem? hc)
    have hle : (i.toNat + 1) * n ≤ css.length * n := Nat.mul_le_mul_right _ hlt
    rw [Nat.add_mul, Nat.one_mul] at hle
    refine ⟨b, off + i.toNat * n, B, ?_, h4, h5, by omega, ?_⟩
    · simp only [ixsR]
      rw [if_pos ⟨h0, by omega⟩]
    · have := flat_at h8 hc
      rw [← h7] at this
      rw [hcl, ← List.drop_drop]
      rw [List.drop_take, List.take_take, Nat.min_eq_left (by omega)] at this
      exact this

/-- A part of it. -/
theorem SlC.sub {h : Heap} {n : Nat} {css : List (List AVal)} {b off cap sz : Nat} {ex : Bool} {B : List AVal} (h2 : ex = true ∨ sz = n) (h3 : css.length ≤ cap) (h4 : h.get b = some B) (h5 : h.isM b = false)
    (h6 : off + css.length * n ≤ B.length) (h7 : (B.drop off).take (css.length * n) = css.flatten) (h8 : ∀ c, c ∈ css → c.length = n) {lo hi cap' : Nat} {ex' : Bool} (k1 : lo ≤ hi) (k2 : hi ≤ css.length) (k3 : hi - lo ≤ cap') (k4 : ex' = true ∨ sz = n) :
    SlC h n (.sl b (off + lo * n) (hi - lo) cap' sz ex') ((css.take hi).drop lo) := by
  have hl : ((css.take hi).drop lo).length = hi - lo := by simp; omega
  have e1 : lo * n ≤ hi * n := Nat.mul_le_mul_right _ k1
  have e2 : hi * n ≤ css.length * n := Nat.mul_le_mul_right _ k2
  have e3 : (hi - lo) * n = hi * n - lo * n := Nat.sub_mul _ _ _
  refine .inr ⟨b, off + lo * n, cap', sz, ex', B, by rw [hl], k4, by rw [hl]; exact k3, h4, h5, by rw [hl, e3]; omega, ?_, fun c hc => h8 c (List.mem_of_mem_take (List.mem_of_mem_drop hc))⟩
  rw [hl]
  have hd : ∀ (l : List (List AVal)) (k : Nat), (∀ c, c ∈ l → c.length = n) → k ≤ l.length → (l.drop k).flatten = l.flatten.drop (k * n) := by
    intro l
    induction l with
    | nil => intro k _ _; simp
    | cons c r ih =>
      intro k hc hk
      cases k with
      | zero => simp
      | succ k =>
        have h1 := hc c (by simp)
        rw [List.drop_succ_cons, ih k (fun d hd => hc d (by simp [hd])) (by simpa using hk), List.flatten_cons, Nat.add_mul, Nat.one_mul, Nat.add_comm, ← List.drop_drop, ← h1, List.drop_left]
  have ht : ∀ (l : List (List AVal)) (k : Nat), (∀ c, c ∈ l → c.length = n) → k ≤ l.length → (l.take k).flatten = l.flatten.take (k * n) := by
    intro l
    induction l with
    | nil => intro k _ _; simp
    | cons c r ih =>
      intro k hc hk
      cases k with
      | zero => simp
      | succ k =>
        have h1 := hc c (by simp)
        have e1 : c.take (n + k * n) = c := List.take_of_length_le (by rw [h1]; exact Nat.le_add_right _ _)
        have e2 : n + k * n - c.length = k * n := by omega
        rw [List.take_succ_cons, List.flatten_cons, ih k (fun d hd => hc d (by simp [hd])) (by simpa using hk), List.flatten_cons, Nat.add_mul, Nat.one_mul, Nat.add_comm, List.take_append, e1, e2]
  rw [hd _ _ (fun c hc => h8 c (List.mem_of_mem_take hc)) (by simp; omega), ht _ _ h8 k2, ← h7]
  rw [List.take_take, Nat.min_eq_left (by omega), List.drop_take, List.drop_drop, e3]

/-! ### rows that grow -/

def AVal.blks : AVal → List Nat
  | .sl b _ _ _ _ _ => [b]
  | _ => []

/-- A slice that append takes: none; one whose room is known to be full; one that append told, and whose class began since h0. -/
def Gro (h0 h : Heap) (n : Nat) (v : AVal) : Prop := v = .nils ∨ ∃ b off len cap sz ex, v = .sl b off len cap sz ex ∧
  ((ex = true ∧ len = cap) ∨ (ex = false ∧ sz = n ∧ cap = len ∧ h.n0 ≤ b ∧ h.isM b = false ∧ h.spent b = false ∧ ∃ r B, h.cls b = some r ∧ h0.next ≤ r ∧ h.get b = some B ∧ B.length = off + len * n ∧ h.only r = false))

theorem Gro.nil {h0 h : Heap} {n : Nat} : Gro h0 h n .nils := .inl rfl
theorem Gro.ext {S : List Nat} {h0 h h' : Heap} {n : Nat} {v : AVal} (g : Gro h0 h n v) (e : Ext S h h') (hs : ∀ b, b ∈ v.blks → b ∉ S) : Gro h0 h' n v := by
  rcases g with g | ⟨b, off, len, cap, sz, ex, rfl, g | ⟨g1, g2, g3, g4, g5, g6, r, B, g7, g8, g9, g10, g11⟩⟩
  · exact .inl g
  · exact .inr ⟨b, off, len, cap, sz, ex, rfl, .inl g⟩
  · have hl := get_lt g9
    exact .inr ⟨b, off, len, cap, sz, ex, rfl, .inr ⟨g1, g2, g3, by rw [e.n0]; exact g4, by rw [e.isM b hl]; exact g5, by rw [e.sp b g4 hl (hs b (by simp [AVal.blks]))]; exact g6, r, B, by rw [e.cls b hl]; exact g7, g8,
      by rw [e.get b (.inl g5) (by rw [g9]; rfl)]; exact g9, g10, by have := Heap.cls_eq g7; rw [e.on r this.1 (by omega)]; exact g11⟩⟩
/-- Through a heap in which objects alone were touched. -/
theorem Gro.extO {S : List Nat} {h0 h h' : Heap} {n : Nat} {v : AVal} {css : List (List AVal)} (g : Gro h0 h n v) (sl : SlC h n v css) (e : Ext S h h') (hs : ∀ b, b ∈ S → h.isM b = true ∨ h.next ≤ b) : Gro h0 h' n v := by
  refine g.ext e fun b hb hq => ?_
  rcases sl with ⟨rfl, _⟩ | ⟨b', off, cap, sz, ex, B, rfl, _, _, h4, h5, _⟩
  · simp [AVal.blks] at hb
  · simp [AVal.blks] at hb
    subst hb
    rcases hs b hq with k | k
    · rw [h5] at k; cases k
    · have := get_lt h4; omega
theorem Gro.e {h0 h h' : Heap} {n : Nat} {v : AVal} (g : Gro h0 h n v) (e : Ext [] h h') : Gro h0 h' n v := g.ext e (by simp)
theorem Gro.back {h0 h1 h : Heap} {n : Nat} {v : AVal} (g : Gro h1 h n v) (hn : h0.next ≤ h1.next) : Gro h0 h n v := by
  rcases g with g | ⟨b, off, len, cap, sz, ex, rfl, g | ⟨g1, g2, g3, g4, g5, g6, r, B, g7, g8, g9, g10, g11⟩⟩
  · exact .inl g
  · exact .inr ⟨b, off, len, cap, sz, ex, rfl, .inl g⟩
  · exact .inr ⟨b, off, len, cap, sz, ex, rfl, .inr ⟨g1, g2, g3, g4, g5, g6, r, B, g7, by omega, g9, g10, g11⟩⟩

theorem only_newG (h : Heap) (cs : List AVal) : (h.newG cs).only h.next = false := by
  show (match (h.lo.set h.cnt none).get (h.next - h.n0) with
    | some (_, x) => x
    | none => false) = false
  rw [Tr.get_set, if_pos (by unfold Heap.next; omega)]

theorem app_ok {h0 h : Heap} {n by_ : Nat} {s x : AVal} {css dss : List (List AVal)} (hn : 0 < n) (o : SlC h n s css) (g : Gro h0 h n s) (hsrc : aSource h n false x = some (dss.length, dss.flatten)) (hd : ∀ c, c ∈ dss → c.length = n)
    (h1 : dss.flatten.all AVal.one = true) (hl : css.length + dss.length ≤ 2 ^ 34) (hby : by_ ≤ 2 ^ 12) (hle : h0.next ≤ h.next) :
    ∃ s' h', appR n by_ h s x = .val s' h' ∧ SlC h' n s' (css ++ dss) ∧ Gro h0 h' n s' ∧ Ext s.blks h h' ∧ (∀ S, Ext S h0 h → Ext S h0 h') ∧ (∀ b, b ∈ s'.blks → b ∈ s.blks ∨ b = h.next) := by
  have hmul : (css.length + dss.length) * by_ ≤ 2 ^ 46 := Nat.le_trans (Nat.mul_le_mul hl hby) (by decide)
  have hfl := flat_len hd
  unfold appR
  rw [hsrc]
  simp only
  -- a new row, whole
  have whole : ∀ (h' : Heap) (r : Nat), h'.n0 = h.n0 → (∀ j, h'.get j = if j = h.next then some (css.flatten ++ dss.flatten) else h.get j) → (∀ j, h'.isM j = if j = h.next then false else h.isM j) → h'.cls h.next = some r → h0.next ≤ r → h'.spent h.next = false → h'.only r = false →
      (∀ c, c ∈ css → c.length = n) → SlC h' n (.sl h.next 0 (css.length + dss.length) (css.length + dss.length) n false) (css ++ dss) ∧ Gro h0 h' n (.sl h.next 0 (css.length + dss.length) (css.length + dss.length) n false) := by
    intro h' r e0 e1 e2 e3 e4 e5 e7 e6
    have hfl2 := flat_len e6
    have hlen : (css.flatten ++ dss.flatten).length = (css.length + dss.length) * n := by rw [List.length_append, hfl, hfl2, Nat.add_mul]
    refine ⟨.inr ⟨h.next, 0, _, n, false, _, by rw [List.length_append], .inr rfl, by simp, by rw [e1, if_pos rfl], by rw [e2, if_pos rfl], ?_, ?_, fun c hc => ?_⟩,
      .inr ⟨h.next, 0, _, _, n, false, rfl, .inr ⟨rfl, rfl, rfl, by rw [e0]; exact n0_le h, by rw [e2, if_pos rfl], e5, r, _, e3, e4, by rw [e1, if_pos rfl], by omega, e7⟩⟩⟩
    · rw [List.length_append]; omega
    · rw [List.length_append, List.drop_zero, ← hlen, List.take_length, List.flatten_append]
    · rcases List.mem_append.1 hc with k | k
      · exact e6 c k
      · exact hd c k
  rcases o with ⟨rfl, rfl⟩ | ⟨b, off, cap, sz, ex, B, rfl, o2, o3, o4, o5, o6, o7, o8⟩
  · simp only
    by_cases hm : dss.length = 0
    · rw [if_pos hm]
      have : dss = [] := List.eq_nil_of_length_eq_zero hm
      subst this
      exact ⟨_, _, rfl, .nil, .nil, .refl, fun _ e => e, by simp [AVal.blks]⟩
    · rw [if_neg hm, if_pos ⟨by simp at hl; omega, by simpa using hmul, hn⟩]
      obtain ⟨w1, w2⟩ := whole (h.newG dss.flatten) h.next rfl (by simpa using Heap.get_newG h dss.flatten) (isM_newG h _) (by rw [Heap.cls_newG, if_pos rfl]) hle (by rw [Heap.spent_newG h _ (n0_le h), if_pos rfl]) (only_newG h _) (by simp)
      refine ⟨_, _, rfl, by simpa using w1, by simpa using w2, Ext.newG h _, fun S e => e.quiet (Ext.newG h _), ?_⟩
      simp [AVal.blks]
  · have hcells : h.cells b off (css.length * n) = some css.flatten := by
      simp only [Heap.cells, o4]
      rw [if_pos o6, o7]
    simp only [hcells]
    rcases g with g | ⟨b', off', len', cap', sz', ex', g0, g⟩
    · cases g
    · cases g0
      rcases g with ⟨g1, g2⟩ | ⟨g1, g2, g3, g4, g5, g6, r, B', g7, g8, g9, g10, g11⟩
      · subst g2
        by_cases hm : dss.length = 0
        · rw [if_pos (by omega), if_pos hm]
          have : dss = [] := List.eq_nil_of_length_eq_zero hm
          subst this
          exact ⟨_, _, rfl, by rw [List.append_nil]; exact .inr ⟨b, off, _, sz, ex, B, rfl, o2, o3, o4, o5, o6, o7, o8⟩, .inr ⟨_, _, _, _, _, _, rfl, .inl ⟨g1, rfl⟩⟩, .refl, fun _ e => e, fun b hb => .inl hb⟩
        · rw [if_neg (by omega), if_pos ⟨by omega, hmul, hn⟩, if_pos g1]
          obtain ⟨w1, w2⟩ := whole (h.newG (css.flatten ++ dss.flatten)) h.next rfl (Heap.get_newG h _) (isM_newG h _) (by rw [Heap.cls_newG, if_pos rfl]) hle (by rw [Heap.spent_newG h _ (n0_le h), if_pos rfl]) (only_newG h _) o8
          exact ⟨_, _, rfl, w1, w2, (Ext.newG h _).of, fun S e => e.quiet (Ext.newG h _), by simp [AVal.blks]⟩
      · subst g1; subst g3
        rw [o4] at g9; cases g9
        by_cases hm : dss.length = 0
        · rw [if_pos (by omega), if_pos hm]
          have : dss = [] := List.eq_nil_of_length_eq_zero hm
          subst this
          exact ⟨_, _, rfl, by rw [List.append_nil]; exact .inr ⟨b, off, _, sz, false, B, rfl, o2, o3, o4, o5, o6, o7, o8⟩, .inr ⟨_, _, _, _, _, _, rfl, .inr ⟨rfl, g2, rfl, g4, g5, g6, r, B, g7, g8, o4, g10, g11⟩⟩, .refl, fun _ e => e, fun b hb => .inl hb⟩
        · have hnone : (h.cells b off (css.length * n + 1)).isNone = true := by
            simp only [Heap.cells, o4]
            rw [if_neg (by omega)]
            rfl
          rw [if_neg (by omega), if_pos ⟨by omega, hmul, hn⟩, if_neg (by simp), g7]
          simp only
          rw [if_pos ⟨g2, g4, h1, g6, g11, hnone⟩]
          have hu := Heap.up_of_get g4 o4
          have hbl := get_lt o4
          have hrb := (Heap.cls_eq g7).2.1
          obtain ⟨w1, w2⟩ := whole (h.app r b (css.flatten ++ dss.flatten)) r rfl (Heap.get_app h _ g4 g7 hu g11) (isM_app h r b _) (by rw [Heap.cls_app h _ g7, if_pos rfl]) g8 (by rw [Heap.spent_app h _ g4 (n0_le h), if_pos rfl]) g11 o8
          refine ⟨_, _, rfl, w1, w2, Ext.app _ g4 g7 hu g11, fun S e => e.then (Ext.app _ g4 g7 hu g11) (by simp; omega), ?_⟩
          simp [AVal.blks]

end Go.Ab
