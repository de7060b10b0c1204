/-
  The abstract machine: a region whose order is open. First part: what an operation looks at; what a region's marks say.
-/
import Derived.Test.YtochkdifpgelmaaABSeq
import Derived.Still
set_option linter.unusedVariables false
set_option linter.unusedSimpArgs false
namespace Go.Ab

section
variable {P : Program}

theorem aOp_congr {e e' : Operand → AVal} (o : Oper) (h : Heap) (k : ∀ x ∈ o.op.operands, e x = e' x) : aOp P e h o = aOp P e' h o := by
  obtain ⟨dst, op, type, pos, after, guard⟩ := o
  have pairs : ∀ ps : List (Nat × Operand), (∀ x ∈ ps.map (·.2), e x = e' x) → (ps.map fun (i, x) => (i, e x)) = (ps.map fun (i, x) => (i, e' x)) := fun ps hp =>
    List.map_congr_left fun p hm => by
      obtain ⟨i, x⟩ := p
      simp only [hp x (List.mem_map.2 ⟨(i, x), hm, rfl⟩)]
  cases op <;> simp only [Op.operands] at k <;> simp only [aOp]
  case build t ps => rw [pairs ps.toList fun x hx => k x (by simpa using hx)]
  case buildSlice t n ps => rw [pairs ps.toList fun x hx => k x (by simpa using hx)]
  case makeFunc fn first captured =>
    cases fn <;> simp only
    rw [List.map_congr_left (l := first.toList) fun x hx => k x (by simp at hx; simp [hx]), List.map_congr_left (l := captured.toList) fun x hx => k x (by simp at hx; simp [hx])]
  case call c =>
    have hargs : c.args.toList.map e = c.args.toList.map e' := List.map_congr_left fun x hx => k x (by simp at hx; simp [Call.operands, hx])
    cases hc : c.callee with
    | value f => have hf : e f = e' f := k f (by simp [Call.operands, hc]); simp only [hf, hargs]
    | invoke r m => rfl
    | builtin b => simp only [hargs]
  case slice t x lo hi mx => cases lo <;> cases hi <;> cases mx <;> simp_all
  case makeMap t r => cases r <;> rfl
  all_goals (first | rfl | (simp_all; done))

theorem aBuiltin_len {h : Heap} {ts : Array TypeId} {ty : TypeId} {args : List AVal} : aBuiltin P h .len ts ty args = match ts.toList, args with
    | [t], [x] => if isMapT P t then AR.of (aLenM h x) h else AR.of (aLen P t x) h
    | _, _ => .fail := by
  unfold aBuiltin
  generalize ts.toList = l
  rcases l with _ | ⟨a, _ | ⟨b, l⟩⟩ <;> rcases args with _ | ⟨x, _ | ⟨y, r⟩⟩ <;> rfl

theorem pure_heap {e : Operand → AVal} {o : Oper} {h : Heap} {v : AVal} (hk : opKind P o = .pure) (hv : arVal (aOp P e h o) = some v) (h1 : Heap) : aOp P e h1 o = .val v h1 := by
  have of : ∀ {x : Option AVal}, arVal (AR.of x h) = some v → AR.of x h1 = .val v h1 := fun {x} q => by
    cases x with
    | none => cases q
    | some u => simp only [AR.of, arVal, Option.some.injEq] at q; subst q; rfl
  obtain ⟨dst, op, type, pos, after, guard⟩ := o
  cases op <;> simp only [opKind] at hk <;> try cases hk
  all_goals simp only [aOp] at hv ⊢
  case move x => simp only [arVal, Option.some.injEq] at hv; subst hv; rfl
  case assign x => simp only [arVal, Option.some.injEq] at hv; subst hv; rfl
  case pick c a b =>
    split at hv
    · rename_i t ht; simp only [arVal, Option.some.injEq] at hv; subst hv; rfl
    · cases hv
  case build => exact of hv
  case nilCheck x =>
    split at hv
    · rename_i ht; simp only [arVal, Option.some.injEq] at hv; subst hv; rfl
    · rename_i ht; simp only [arVal, Option.some.injEq] at hv; subst hv; rfl
    · rename_i ht; simp only [arVal, Option.some.injEq] at hv; subst hv; rfl
    · cases hv
  case binOp => exact of hv
  case unOp => exact of hv
  case convert s d x =>
    split at hk
    · rename_i hck
      unfold aConv at hv ⊢
      rw [hck] at hv ⊢
      simp only at hv ⊢
      split at hv
      · split at hv
        · simp only [arVal, Option.some.injEq] at hv; subst hv; rfl
        · cases hv
      · cases hv
    · cases hk
    · cases hk
  case makeInterface t x =>
    split at hv
    · cases hv
    · rename_i ht; simp only [arVal, Option.some.injEq] at hv; rw [if_neg ht]; subst hv; rfl
  case makeFunc fn a c =>
    cases fn <;> simp only at hv ⊢ <;> first | (simp only [arVal, Option.some.injEq] at hv; subst hv; rfl) | cases hv
  case slice => exact of hv
  case fieldAddr => exact of hv
  case field => exact of hv
  case indexAddr => exact of hv
  case index => exact of hv
  case extract x i =>
    split at hv
    · exact of hv
    · cases hv
  case typeAssert => exact of hv
  case call c =>
    split at hk
    · rename_i hc; rw [hc] at hv ⊢
      have hv' : arVal (aBuiltin P h .len c.argTypes type (c.args.toList.map e)) = some v := hv
      show aBuiltin P h1 .len c.argTypes type (c.args.toList.map e) = _
      have hnm : ∀ t, t ∈ c.argTypes.toList → isMapT P t = false := fun t ht => by
        cases q : isMapT P t with
        | false => rfl
        | true => rw [if_pos (List.any_eq_true.2 ⟨t, ht, q⟩)] at hk; cases hk
      rw [aBuiltin_len] at hv' ⊢
      split at hv'
      · rename_i t x hts _
        have hn := hnm t (by rw [hts]; simp)
        rw [if_neg (by simp [hn])] at hv'
        simp only [hn, Bool.false_eq_true, if_false]
        exact of hv'
      · cases hv'
    · rename_i hc; rw [hc] at hv ⊢; simp only [aBuiltin] at hv ⊢; exact of hv
    · rename_i hc; rw [hc] at hv ⊢; simp only [aBuiltin] at hv ⊢; exact of hv
    all_goals cases hk

theorem read_heap {e : Operand → AVal} {o : Oper} {h : Heap} {v : AVal} (hk : opKind P o = .read) (hv : arVal (aOp P e h o) = some v) : aOp P e h o = .val v h := by
  have of : ∀ {x : Option AVal}, arVal (AR.of x h) = some v → AR.of x h = .val v h := fun {x} q => by
    cases x with
    | none => cases q
    | some u => simp only [AR.of, arVal, Option.some.injEq] at q; subst q; rfl
  obtain ⟨dst, op, type, pos, after, guard⟩ := o
  cases op <;> simp only [opKind] at hk <;> try cases hk
  all_goals simp only [aOp] at hv ⊢
  case load => exact of hv
  case lookup => exact of hv
  case convert s d x =>
    split at hk
    · cases hk
    · rename_i hck
      unfold aConv at hv ⊢
      rw [hck] at hv ⊢
      simp only at hv ⊢
      repeat' split at hv
      all_goals first | (simp only [arVal, Option.some.injEq] at hv; subst hv; rfl) | cases hv
    · cases hk
  case call c => split at hk <;> (try split at hk) <;> cases hk

theorem alloc_heap {e : Operand → AVal} {o : Oper} {h h' : Heap} {v : AVal} (hk : opKind P o = .alloc) (hv : aOp P e h o = .val v h') : ∃ mm cs, h' = h.new mm cs ∧ ∀ h1 : Heap, h1.next = h.next → aOp P e h1 o = .val v (h1.new mm cs) := by
  obtain ⟨dst, op, type, pos, after, guard⟩ := o
  cases op <;> simp only [opKind] at hk <;> try cases hk
  all_goals simp only [aOp] at hv ⊢
  case alloc t =>
    split at hv
    · rename_i z hz; cases hv; exact ⟨_, z.cells, rfl, fun h1 q => by rw [q]⟩
    · cases hv
  case box t x =>
    split at hv
    · rename_i z; cases hv; exact ⟨_, _, rfl, fun h1 q => by rw [if_pos z, q]⟩
    · cases hv
  case buildSlice t n ps =>
    unfold aBuildSlice at hv ⊢
    split at hv
    · rename_i el hu
      split at hv
      · rename_i m z h1 h2
        split at hv
        · rename_i hc
          split at hv
          · rename_i cs hcs
            cases hv
            exact ⟨_, cs, rfl, fun h3 q => by rw [if_pos hc, q]⟩
          · cases hv
        · cases hv
      · cases hv
    · cases hv
  case makeSlice t l c =>
    unfold aMake at hv ⊢
    split at hv
    · rename_i el k1 l1 k2 c1 hu hl hc
      split at hv
      · rename_i i z h1 h2
        split at hv
        · rename_i hc2
          cases hv
          exact ⟨_, _, rfl, fun h3 q => by rw [if_pos hc2, q]⟩
        · cases hv
      · cases hv
    · cases hv
  case convert s d x => split at hk <;> cases hk
  case call c => split at hk <;> (try split at hk) <;> cases hk

/-! ### What a region's order says -/

def befStep (acc : Array Nat) (o : Oper) : Array Nat := acc.push (o.after.foldl (fun s e => if Region.binds .any e then s ||| 2 ^ e.on ||| acc.getD e.on 0 else s) 0)

theorem fold_bits (acc : Array Nat) (j : Nat) : ∀ (l : List Edge) (s : Nat), (l.foldl (fun s e => if Region.binds .any e then s ||| 2 ^ e.on ||| acc.getD e.on 0 else s) s).testBit j = true →
    s.testBit j = true ∨ ∃ e ∈ l, Region.binds .any e = true ∧ (e.on = j ∨ (acc.getD e.on 0).testBit j = true)
  | [], s, h => .inl h
  | e :: r, s, h => by
    rcases fold_bits acc j r _ h with k | ⟨x, hx, k⟩
    · dsimp only at k
      split at k
      · rename_i hb
        simp only [Nat.testBit_or, Bool.or_eq_true] at k
        rcases k with (k | k) | k
        · exact .inl k
        · exact .inr ⟨e, List.mem_cons_self, hb, .inl (by rw [Nat.testBit_two_pow] at k; simpa using k)⟩
        · exact .inr ⟨e, List.mem_cons_self, hb, .inr k⟩
      · exact .inl k
    · exact .inr ⟨x, List.mem_cons_of_mem _ hx, k⟩

theorem bef_old : ∀ (l : List Oper) (b : Array Nat) (j : Nat), j < b.size → (l.foldl befStep b).getD j 0 = b.getD j 0
  | [], _, _, _ => rfl
  | o :: r, b, j, h => by
    simp only [List.foldl_cons]
    rw [bef_old r (befStep b o) j (by simp [befStep]; omega)]
    unfold befStep
    simp only [Array.getD_eq_getD_getElem?]
    rw [Array.getElem?_push_lt h, Array.getElem?_eq_getElem h]

theorem bef_new : ∀ (l : List Oper) (b : Array Nat) (k : Nat) (o : Oper), l[k]? = some o → ∀ j, ((l.foldl befStep b).getD (b.size + k) 0).testBit j = true →
    ∃ e ∈ o.after.toList, Region.binds .any e = true ∧ (e.on = j ∨ ((l.foldl befStep b).getD e.on 0).testBit j = true)
  | [], _, k, o, h, _, _ => by simp at h
  | o' :: r, b, 0, o, h, j, ht => by
    simp only [List.getElem?_cons_zero, Option.some.injEq] at h
    subst h
    simp only [List.foldl_cons, Nat.add_zero] at ht ⊢
    rw [bef_old r (befStep b o') b.size (by simp [befStep])] at ht
    have hv : (befStep b o').getD b.size 0 = o'.after.toList.foldl (fun s e => if Region.binds .any e then s ||| 2 ^ e.on ||| b.getD e.on 0 else s) 0 := by
      unfold befStep
      rw [Array.getD_eq_getD_getElem?, Array.getElem?_push_size, ← Array.foldl_toList]
      rfl
    rw [hv] at ht
    rcases fold_bits b j _ 0 ht with k | ⟨e, he, hb, k⟩
    · simp at k
    · refine ⟨e, he, hb, ?_⟩
      rcases k with k | k
      · exact .inl k
      · right
        have hlt : e.on < b.size := by
          rcases Nat.lt_or_ge e.on b.size with q | q
          · exact q
          · rw [Array.getD_eq_getD_getElem?, Array.getElem?_eq_none q] at k; simp at k
        rw [bef_old r (befStep b o') e.on (by simp [befStep]; omega)]
        have : (befStep b o').getD e.on 0 = b.getD e.on 0 := by
          unfold befStep
          simp only [Array.getD_eq_getD_getElem?]
          rw [Array.getElem?_push_lt hlt, Array.getElem?_eq_getElem hlt]
        rw [this]; exact k
  | o' :: r, b, k + 1, o, h, j, ht => by
    simp only [List.getElem?_cons_succ] at h
    simp only [List.foldl_cons] at ht ⊢
    have hs : (befStep b o').size = b.size + 1 := by simp [befStep]
    refine bef_new r (befStep b o') k o h j ?_
    rw [hs, show b.size + 1 + k = b.size + (k + 1) by omega]
    exact ht

theorem before_spec {ops : Array Oper} {i : Nat} {o : Oper} (ho : ops[i]? = some o) {j : Nat} (ht : ((Region.before ops).getD i 0).testBit j = true) :
    ∃ e ∈ o.after.toList, Region.binds .any e = true ∧ (e.on = j ∨ ((Region.before ops).getD e.on 0).testBit j = true) := by
  have hd : Region.before ops = ops.toList.foldl befStep #[] := by
    unfold Region.before
    rw [← Array.foldl_toList]
    rfl
  rw [hd] at ht ⊢
  exact bef_new ops.toList #[] i o (by simpa using ho) j (by simpa using ht)

/-- Closed: what is ahead of what is listed is listed. -/
def Clo (ops : Array Oper) (X : Array Bool) : Prop := ∀ i j, X.getD i false = true → ((Region.before ops).getD i 0).testBit j = true → X.getD j false = true

theorem ready_ahead {ops : Array Oper} {X : Array Bool} (hc : Clo ops X) {i : Nat} (hr : i ∈ Region.ready .any ops X) {j : Nat} (ht : ((Region.before ops).getD i 0).testBit j = true) : X.getD j false = true := by
  obtain ⟨_, o, ho, hall⟩ := mem_ready.1 hr
  obtain ⟨e, he, hb, k⟩ := before_spec ho ht
  have hX := hall e (by simpa using he) hb
  rcases k with k | k
  · rw [← k]; exact hX
  · exact hc e.on j hX k

theorem getD_set {X : Array Bool} {i j : Nat} {d : Bool} (hi : i < X.size) : (X.setIfInBounds i true).getD j d = if i = j then true else X.getD j d := by
  simp only [Array.getD_eq_getD_getElem?, Array.getElem?_setIfInBounds]
  split
  · rename_i h; subst h; simp [hi]
  · rfl

theorem Clo.set {ops : Array Oper} {X : Array Bool} (hc : Clo ops X) {i : Nat} (hi : i < X.size) (hr : i ∈ Region.ready .any ops X) : Clo ops (X.setIfInBounds i true) := by
  intro k j hk hj
  rw [getD_set hi] at hk ⊢
  split
  · rfl
  · split at hk
    · rename_i h; subst h; exact ready_ahead hc hr hj
    · exact hc k j hk hj

end
end Go.Ab
