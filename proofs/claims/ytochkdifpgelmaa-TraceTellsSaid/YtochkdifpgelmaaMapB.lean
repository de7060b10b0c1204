/-
  Reckoning in the S-forms: maps.
-/
import Derived.Test.YtochkdifpgelmaaEq2
set_option linter.unusedVariables false
set_option linter.unusedSimpArgs false
namespace Go.Ab
open Go

/-- Keys and numbers, one behind the other. -/
def mpC {α : Type} (enc : α → AVal) (f : α → Int) (ks : List α) : List AVal := ks.flatMap fun a => [enc a, I (f a)]
def mpE {α : Type} (kv : α → Value) (ks : List α) : List MapEntry := ks.map fun a => { key := kv a, val := .nilFunc, born := 0 }

section
variable {α : Type} {enc : α → AVal} {kv : α → Value} {f : α → Int} {ks : List α}
theorem mpC_app {ls : List α} : mpC enc f (ks ++ ls) = mpC enc f ks ++ mpC enc f ls := by simp [mpC]
theorem mpC_cons {a : α} : mpC enc f (a :: ks) = enc a :: I (f a) :: mpC enc f ks := by simp [mpC]
theorem mpC_len : ∀ {ks : List α}, (mpC enc f ks).length = 2 * ks.length
  | [] => rfl
  | a :: r => by rw [mpC_cons]; simp [mpC_len (ks := r)]; omega
theorem mpC_at : ∀ {ks : List α} {i : Nat} {a : α}, ks[i]? = some a → (mpC enc f ks)[2 * i]? = some (enc a) ∧ (mpC enc f ks)[2 * i + 1]? = some (I (f a))
  | [], i, a, e => by simp at e
  | b :: r, 0, a, e => by simp at e; subst e; simp [mpC_cons]
  | b :: r, i + 1, a, e => by
    have ih := mpC_at (ks := r) (i := i) (a := a) (by simpa using e)
    rw [mpC_cons, show 2 * (i + 1) = 2 * i + 1 + 1 by omega]
    exact ⟨by simpa using ih.1, by simpa using ih.2⟩
theorem mpC_entries (tv : ∀ a, (enc a).toV = some (kv a)) : ∀ ks : List α, aEntries (mpC enc f ks) = some (mpE kv ks)
  | [] => rfl
  | a :: r => by rw [mpC_cons]; simp [aEntries, tv a, mpC_entries tv r, mpE]
theorem mpC_congr {g : α → Int} : ∀ {ks : List α}, (∀ x, x ∈ ks → g x = f x) → mpC enc g ks = mpC enc f ks
  | [], _ => rfl
  | a :: r, h => by rw [mpC_cons, mpC_cons, h a (by simp), mpC_congr fun x hx => h x (by simp [hx])]
theorem set_self {β : Type} {l : List β} {i : Nat} {x : β} (h : l[i]? = some x) : l.set i x = l := by
  apply List.ext_getElem?
  intro j
  rw [List.getElem?_set]
  by_cases hj : i = j
  · subst hj; rw [if_pos rfl, if_pos (List.getElem?_eq_some_iff.1 h).1, h]
  · rw [if_neg hj]
theorem mpC_set [DecidableEq α] (n : Int) : ∀ {ks : List α}, ks.Nodup → ∀ {i : Nat} {a : α}, ks[i]? = some a → (mpC enc f ks).set (2 * i + 1) (I n) = mpC enc (fun x => if x = a then n else f x) ks
  | [], _, i, a, e => by simp at e
  | b :: r, hn, 0, a, e => by
    simp at e; subst e
    have hb := (List.nodup_cons.1 hn).1
    have : mpC enc (fun x => if x = b then n else f x) r = mpC enc f r := by
      exact mpC_congr fun x hx => if_neg (fun q : x = b => hb (q ▸ hx))
    rw [mpC_cons, mpC_cons, this]; simp
  | b :: r, hn, i + 1, a, e => by
    have ih := mpC_set n (List.nodup_cons.1 hn).2 (i := i) (a := a) (by simpa using e)
    have hm : a ∈ r := List.mem_of_getElem? (by simpa using e)
    have hb : b ≠ a := fun q => (List.nodup_cons.1 hn).1 (q ▸ hm)
    rw [mpC_cons, mpC_cons, show 2 * (i + 1) + 1 = (2 * i + 1) + 1 + 1 by omega, List.set_cons_succ, List.set_cons_succ, ih, if_neg hb]
end

/-- Where a key lies. -/
def idxK {α : Type} [DecidableEq α] (ks : List α) (a : α) : Nat := @List.idxOf α instBEqOfDecidableEq a ks
/-- A kind of keys. -/
structure Kk (P : Program) (kt : TypeId) (α : Type) [DecidableEq α] where
  enc : α → AVal
  kv : α → Value
  tv : ∀ a, (enc a).toV = some (kv a)
  find : ∀ (ks : List α) a, aPure P (do Instr.checkKey (mpE kv ks).isEmpty 10000 kt (kv a); Instr.findKey kt (kv a) (mpE kv ks)) = some (if a ∈ ks then some (idxK ks a, .nilFunc) else none)
  ok : ∀ a, keyOk P kt (kv a) = true
  same : ∀ a, Instr.sameBits 10000 (kv a) (kv a) = true

/-- A map of numbers: its keys, in the order in which they came; what a key that is none has is nought. -/
structure Mp {P : Program} {kt : TypeId} {α : Type} [DecidableEq α] (K : Kk P kt α) (h : Heap) (b : Nat) (ks : List α) (f : α → Int) : Prop where
  ob : Ob h b (mpC K.enc f ks)
  nd : ks.Nodup
  out : ∀ a, a ∉ ks → f a = 0

section
variable {P : Program} {kt et t : TypeId} {α : Type} [DecidableEq α] {K : Kk P kt α} {h h' : Heap} {b : Nat} {ks : List α} {f : α → Int} {S : List Nat}

theorem Mp.ext (m : Mp K h b ks f) (e : Ext S h h') (hb : b ∉ S) : Mp K h' b ks f := ⟨m.ob.ext e hb, m.nd, m.out⟩
theorem Mp.e (m : Mp K h b ks f) (e : Ext [] h h') : Mp K h' b ks f := m.ext e (by simp)
theorem Mp.new : Mp K (h.new true []) h.next [] (fun _ => 0) := ⟨Ob.new h [], List.nodup_nil, fun _ _ => rfl⟩

theorem mapCells_ob {cs : List AVal} (o : Ob h b cs) : mapCells h b = some cs := by
  unfold mapCells
  rw [if_pos o.ge, o.2.2]
  exact o.1
theorem Kk.at (a : α) : aFind P kt (K.kv a) (mpC K.enc f ks) = some (if a ∈ ks then some (idxK ks a) else none) := by
  simp only [aFind, mpC_entries K.tv, K.find]
  by_cases hm : a ∈ ks <;> simp [hm]
theorem idx_at {a : α} (hm : a ∈ ks) : ks[idxK ks a]? = some a := by
  unfold idxK
  have := List.idxOf_lt_length_iff.2 hm
  rw [List.getElem?_eq_getElem this, List.getElem_idxOf this]

/-- m[a] -/
theorem Mp.look (m : Mp K h b ks f) (ht : mapTypes P t = some (kt, et)) (hz : tZero P et = some (I 0)) (a : α) : aLookup P h t (.mp b) (K.enc a) false = some (I (f a)) := by
  simp only [aLookup, ht, K.tv, mapCells_ob m.ob, Kk.at]
  by_cases hm : a ∈ ks
  · simp [hm, (mpC_at (enc := K.enc) (f := f) (idx_at hm)).2]
  · simp [hm, hz, m.out a hm]
theorem Mp.lookOk (m : Mp K h b ks f) (ht : mapTypes P t = some (kt, et)) (hz : tZero P et = some (I 0)) (a : α) : aLookup P h t (.mp b) (K.enc a) true = some (.tup [I (f a), .bool (decide (a ∈ ks))]) := by
  simp only [aLookup, ht, K.tv, mapCells_ob m.ob, Kk.at]
  by_cases hm : a ∈ ks
  · simp [hm, (mpC_at (enc := K.enc) (f := f) (idx_at hm)).2]
  · simp [hm, hz, m.out a hm]
theorem Mp.len (m : Mp K h b ks f) : aLenM h (.mp b) = some (I ks.length) := by
  simp only [aLenM, mapCells_ob m.ob, mpC_len]
  congr 2
  simp
def insK (ks : List α) (a : α) : List α := if a ∈ ks then ks else ks ++ [a]
theorem mem_insK {a x : α} : x ∈ insK ks a ↔ x = a ∨ x ∈ ks := by
  unfold insK
  split
  · rename_i hm
    exact ⟨.inr, fun q => by
      rcases q with q | q
      · rw [q]; exact hm
      · exact q⟩
  · simp only [List.mem_append, List.mem_singleton]; exact Or.comm
theorem nodup_insK {a : α} (hn : ks.Nodup) : (insK ks a).Nodup := by
  unfold insK
  split
  · exact hn
  · rename_i hm
    rw [List.nodup_append]
    exact ⟨hn, by simp, fun x hx y hy => by simp at hy; subst hy; exact fun q => hm (q ▸ hx)⟩
def updF (f : α → Int) (a : α) (n : Int) : α → Int := fun x => if x = a then n else f x

/-- m[a] is looked up to be changed. -/
theorem Mp.entry (m : Mp K h b ks f) (ht : mapTypes P t = some (kt, et)) (hz : tZero P et = some (I 0)) (a : α) :
    ∃ h', aMapEntry P h t (.mp b) (K.enc a) = .val (.tup [I (f a), I (idxK (insK ks a) a : Int)]) h' ∧ Mp K h' b (insK ks a) f ∧ Ext [b] h h' := by
  by_cases hm : a ∈ ks
  · have hins : insK ks a = ks := by unfold insK; rw [if_pos hm]
    obtain ⟨q1, q2⟩ := mpC_at (enc := K.enc) (f := f) (idx_at hm)
    have hst : keyStays (mpC K.enc f ks) (idxK ks a) (K.kv a) = true := by
      simp only [keyStays, q1, K.tv, K.same]
    refine ⟨h.putB b (mpC K.enc f ks), ?_, ⟨by rw [hins]; exact (m.ob.put _).1, by rw [hins]; exact m.nd, fun x hx => m.out x (by rw [hins] at hx; exact hx)⟩, (m.ob.put _).2⟩
    simp only [aMapEntry, ht, K.tv, mapCells_ob m.ob, K.ok, if_true, Kk.at, if_pos hm, q2, hst, hins, set_self q1]
  · have hins : insK ks a = ks ++ [a] := by unfold insK; rw [if_neg hm]
    have hnd := nodup_insK (a := a) m.nd
    refine ⟨h.putB b (mpC K.enc f (ks ++ [a])), ?_, ⟨by rw [hins]; exact (m.ob.put _).1, hnd, fun x hx => m.out x fun q => hx (mem_insK.2 (.inr q))⟩, (m.ob.put _).2⟩
    have hi : idxK (ks ++ [a]) a = ks.length := by unfold idxK; rw [List.idxOf_append, if_neg hm]; simp
    simp only [aMapEntry, ht, K.tv, mapCells_ob m.ob, K.ok, if_true, Kk.at, if_neg hm, hz, hins, hi, mpC_len, m.out a hm]
    rw [mpC_app]
    simp [mpC, m.out a hm]

/-- .. and is another one. -/
theorem Mp.store (m : Mp K h b ks f) {a : α} (hm : a ∈ ks) (n : Int) : ∃ h', aEntryStore h (.mp b) (I (idxK ks a : Int)) (I n) = .val aUndef h' ∧ Mp K h' b ks (updF f a n) ∧ Ext [b] h h' := by
  have hlt : idxK ks a < ks.length := List.idxOf_lt_length_iff.2 hm
  refine ⟨h.putB b (mpC K.enc (updF f a n) ks), ?_, ⟨(m.ob.put _).1, m.nd, fun x hx => ?_⟩, (m.ob.put _).2⟩
  · simp only [aEntryStore, mapCells_ob m.ob]
    rw [if_pos ⟨by omega, by rw [mpC_len]; omega⟩]
    simp only [Int.toNat_natCast]
    rw [mpC_set n m.nd (idx_at hm)]
    rfl
  · unfold updF
    rw [if_neg (fun q : x = a => hx (q ▸ hm))]
    exact m.out x hx

/-- m[a] = n -/
theorem Mp.upd (m : Mp K h b ks f) (ht : mapTypes P t = some (kt, et)) (a : α) (n : Int) : ∃ h', aMapUpdate P h t (.mp b) (K.enc a) (I n) = .val aUndef h' ∧ Mp K h' b (insK ks a) (updF f a n) ∧ Ext [b] h h' := by
  by_cases hm : a ∈ ks
  · have hins : insK ks a = ks := by unfold insK; rw [if_pos hm]
    obtain ⟨q1, q2⟩ := mpC_at (enc := K.enc) (f := f) (idx_at hm)
    have hst : keyStays (mpC K.enc f ks) (idxK ks a) (K.kv a) = true := by
      simp only [keyStays, q1, K.tv, K.same]
    refine ⟨h.putB b (mpC K.enc (updF f a n) ks), ?_, ⟨by rw [hins]; exact (m.ob.put _).1, by rw [hins]; exact m.nd, fun x hx => ?_⟩, (m.ob.put _).2⟩
    · simp only [aMapUpdate, ht, K.tv, mapCells_ob m.ob, K.ok, if_true, Kk.at, if_pos hm, hst, set_self q1]
      rw [mpC_set n m.nd (idx_at hm)]
      rfl
    · rw [hins] at hx
      unfold updF
      rw [if_neg (fun q : x = a => hx (q ▸ hm))]
      exact m.out x hx
  · have hins : insK ks a = ks ++ [a] := by unfold insK; rw [if_neg hm]
    have hnd := nodup_insK (a := a) m.nd
    have hc : mpC K.enc (updF f a n) (ks ++ [a]) = mpC K.enc f ks ++ [K.enc a, I n] := by
      rw [mpC_app]
      congr 1
      · exact mpC_congr fun x hx => if_neg (fun q : x = a => hm (q ▸ hx))
      · simp [mpC, updF]
    refine ⟨h.putB b (mpC K.enc (updF f a n) (ks ++ [a])), ?_, ⟨by rw [hins]; exact (m.ob.put _).1, hnd, fun x hx => ?_⟩, (m.ob.put _).2⟩
    · simp only [aMapUpdate, ht, K.tv, mapCells_ob m.ob, K.ok, if_true, Kk.at, if_neg hm, hc]
    · unfold updF
      rw [mem_insK] at hx
      rw [if_neg (fun q => hx (.inl q))]
      exact m.out x fun q => hx (.inr q)
end

/-! ### kinds of keys -/

section
variable {P : Program} {α : Type} [DecidableEq α] {kv : α → Value} {kt : TypeId}

theorem find_now {d : TypeDesc} (hs : ∀ a c, Instr.sameNow d (kv a) (kv c) = some (decide (a = c))) (a : α) : ∀ (ks : List α) (i : Nat), Instr.findNow d (kv a) (mpE kv ks) i = some (if a ∈ ks then some (i + idxK ks a, .nilFunc) else none)
  | [], i => rfl
  | c :: r, i => by
    unfold idxK
    show Instr.findNow d (kv a) ({ key := kv c, val := .nilFunc, born := 0 } :: mpE kv r) i = _
    simp only [Instr.findNow, hs]
    by_cases hc : a = c
    · subst hc; simp
    · have hne : ¬ (c == a) = true := by simp; exact fun q => hc q.symm
      simp only [decide_eq_false hc, find_now hs a r (i + 1), idxK, List.idxOf_cons, List.mem_cons, hc, false_or]
      by_cases hm : a ∈ r
      · have hb : (c == a) = false := by simpa using hne
        simp [hm, hb]
        omega
      · simp [hm]
theorem find_asking (hs : ∀ a c, aPure P (Op.equal kt (kv a) (kv c)) = some (decide (a = c))) (a : α) : ∀ (ks : List α) (i : Nat), aPure P (Instr.findAsking kt (kv a) (mpE kv ks) i) = some (if a ∈ ks then some (i + idxK ks a, .nilFunc) else none)
  | [], i => rfl
  | c :: r, i => by
    unfold idxK
    show aPure P (Instr.findAsking kt (kv a) ({ key := kv c, val := .nilFunc, born := 0 } :: mpE kv r) i) = _
    simp only [Instr.findAsking, aPure_bind, hs, Option.bind_some]
    by_cases hc : a = c
    · subst hc; simp [aPure_pure]
    · have hb : (c == a) = false := by simpa using fun q : c = a => hc q.symm
      have ih := find_asking hs a r (i + 1)
      unfold idxK at ih
      simp only [decide_eq_false hc, Bool.false_eq_true, if_false, List.idxOf_cons, List.mem_cons, hc, false_or, hb, cond_false]
      rw [if_neg (by simp), ih]
      by_cases hm : a ∈ r
      · simp [hm]
        omega
      · simp [hm]
end

theorem checkInt {P : Program} {kt : TypeId} (hu : P.underlying kt = some (.int .i64)) (em : Bool) (d : Nat) (a : Int) : aPure P (Instr.checkKey em (d + 1) kt (.int .i64 a)) = some () := by
  simp only [Instr.checkKey, aPure_bind, aPure_und hu, Option.bind_some]
  rfl
theorem sameInt (d : Nat) (a : Int) : Instr.sameBits d (.int .i64 a) (.int .i64 a) = true := by
  cases d <;> simp [Instr.sameBits]
theorem sameTwo (d : Nat) (a b : Int) : Instr.sameBits (d + 1) (.agg #[.int .i64 a, .int .i64 b]) (.agg #[.int .i64 a, .int .i64 b]) = true := by
  simp [Instr.sameBits, sameInt]
/-- Whole numbers. -/
def kInt (P : Program) (kt : TypeId) (hu : P.underlying kt = some (.int .i64)) : Kk P kt Int where
  enc := fun a => I a
  kv := fun a => .int .i64 a
  tv := fun _ => rfl
  find := fun ks a => by
    have hf := find_now (d := .int .i64) (kv := fun a => Value.int .i64 a) (fun a c => by
      have h1 : Instr.sameNow (.int .i64) (.int .i64 a) (.int .i64 c) = some (a == c) := rfl
      have h2 : (a == c) = decide (a = c) := by by_cases q : a = c <;> simp [q]
      rw [h1, h2]) a ks 0
    have h1 : aPure P (Instr.checkKey (mpE (fun a => Value.int .i64 a) ks).isEmpty 10000 kt (.int .i64 a)) = some () := checkInt hu _ 9999 a
    have h2 : aPure P (Instr.findKey kt (.int .i64 a) (mpE (fun a => Value.int .i64 a) ks)) = some (if a ∈ ks then some (idxK ks a, .nilFunc) else none) := by
      simp only [Instr.findKey, aPure_bind, aPure_und hu, Option.bind_some, hf]
      by_cases hm : a ∈ ks <;> simp [hm, aPure_pure]
    rw [aPure_bind, h1]
    exact h2
  ok := fun a => by
    have h1 : aPure P (Instr.checkKey false 10000 kt (.int .i64 a)) = some () := checkInt hu _ 9999 a
    simp only [keyOk, h1]
  same := fun a => sameInt _ a

theorem checkKey2 {P : Program} {t ti : TypeId} {k : IntKind} {f g : Field} (hu : P.underlying t = some (.struct #[f, g])) (hi : P.underlying ti = some (.int k)) (nf : f.name ≠ "_") (ng : g.name ≠ "_") (tf : f.type = ti) (tg : g.type = ti) (of : f.offset = 0) (og : g.offset = 1) (em : Bool) (d : Nat) (a b : Int) :
    aPure P (Instr.checkKey em (d + 2) t (.agg #[.int k a, .int k b])) = some () := by
  have p1 : ∀ x y : Int, aPure P (part ti #[.int k x, .int k y] 0) = some (.int k x) := fun x y => aPure_part hi rfl
  have p2 : ∀ x y : Int, aPure P (part ti #[.int k x, .int k y] 1) = some (.int k y) := fun x y => aPure_part hi rfl
  have e : ∀ x : Int, aPure P (Instr.checkKey em (d + 1) ti (.int k x)) = some () := fun x => by
    simp only [Instr.checkKey, aPure_bind, aPure_und hi, Option.bind_some]
    rfl
  rw [Instr.checkKey]
  simp [aPure_bind, aPure_und hu, nf, ng, tf, tg, of, og, p1, p2, e, aPure_pure]

/-- Structs of two whole numbers. -/
def kTwo (P : Program) (kt : TypeId) (ht : isTwo P kt = true) : Kk P kt (Int × Int) where
  enc := fun a => .agg [I a.1, I a.2]
  kv := fun a => .agg #[.int .i64 a.1, .int .i64 a.2]
  tv := fun _ => rfl
  find := fun ks a => by
    obtain ⟨f, g, hu, a1, a2, a3, a4, a5, a6, a7, a8⟩ := isTwo_of ht
    have hf := find_asking (P := P) (kt := kt) (kv := fun a : Int × Int => Value.agg #[.int .i64 a.1, .int .i64 a.2]) (fun a c => by
      rw [aPure_eqT ht]
      congr 1
      obtain ⟨a1, a2⟩ := a
      obtain ⟨c1, c2⟩ := c
      by_cases q1 : a1 = c1 <;> by_cases q2 : a2 = c2 <;> simp [q1, q2]) a ks 0
    have h1 : aPure P (Instr.checkKey (mpE (fun a : Int × Int => Value.agg #[.int .i64 a.1, .int .i64 a.2]) ks).isEmpty 10000 kt (.agg #[.int .i64 a.1, .int .i64 a.2])) = some () := checkKey2 hu a6 a1 a2 rfl a5 a3 a4 _ 9998 a.1 a.2
    have h2 : aPure P (Instr.findKey kt (.agg #[.int .i64 a.1, .int .i64 a.2]) (mpE (fun a : Int × Int => Value.agg #[.int .i64 a.1, .int .i64 a.2]) ks)) = some (if a ∈ ks then some (idxK ks a, .nilFunc) else none) := by
      simp only [Instr.findKey, aPure_bind, aPure_und hu, Option.bind_some]
      cases ks with
      | nil => rfl
      | cons c r =>
        have : Instr.findNow (.struct #[f, g]) (.agg #[.int .i64 a.1, .int .i64 a.2]) (mpE (fun a : Int × Int => Value.agg #[.int .i64 a.1, .int .i64 a.2]) (c :: r)) 0 = none := rfl
        rw [this]
        simpa using hf
    rw [aPure_bind, h1]
    by_cases hm : a ∈ ks
    · rw [if_pos hm] at h2 ⊢; exact h2
    · rw [if_neg hm] at h2 ⊢; exact h2
  ok := fun a => by
    obtain ⟨f, g, hu, a1, a2, a3, a4, a5, a6, a7, a8⟩ := isTwo_of ht
    simp only [keyOk, checkKey2 hu a6 a1 a2 rfl a5 a3 a4 false 9998 a.1 a.2]
  same := fun a => sameTwo 9999 a.1 a.2
end Go.Ab
