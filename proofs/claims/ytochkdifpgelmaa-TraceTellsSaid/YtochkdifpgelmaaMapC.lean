/-
  Reckoning in the S-forms: a number of a map is one more.
-/
import Derived.Test.YtochkdifpgelmaaMapB
import Derived.Test.YtochkdifpgelmaaB3
set_option linter.unusedVariables false
set_option linter.unusedSimpArgs false
namespace Go.Ab

section
variable {β : Type} {Q : β → Heap → Prop} {h : Heap} {call : Nat → FuncId → List AVal → Heap → Res AVal} {P : Program} {kt et t : TypeId} {α : Type} [DecidableEq α] {K : Kk P kt α} {b : Nat} {ks : List α} {f : α → Int}
/-- m[a]++ -/
theorem Tells.inc {k : Nat → AVal → AVal → AVal → AVal → AVal → Heap → Res β} {ty : TypeId} {x y : Operand} (m : Mp K h b ks f) (ht : mapTypes P t = some (kt, et)) (hz : tZero P et = some (I 0)) {a : α} {κ : AVal} (hk : κ = K.enc a) (hn : In64 (f a + 1))
    (q : ∀ h', Mp K h' b (insK ks a) (updF f a (f a + 1)) → Ext [b] h h' → Tells (fun m => k m (I (f a)) (I (f a + 1)) (.tup [I (f a), I (idxK (insK ks a) a : Int)]) (I (idxK (insK ks a) a : Int)) aUndef h') Q) :
    Tells (fun m => obv (.of (aLookup P h t (.mp b) κ false) h) fun v48 => obv (.of (aBin P .add ty x y v48 (.int .i64 1)) h) fun v50 => arbE (aMapEntry P h t (.mp b) κ) (call m) fun v52 h53 =>
      ifb (isV v48 (arVal (.of (aLookup P h53 t (.mp b) κ false) h53))) (obv (extR v52 1 h53) fun v54 => arbE (aEntryStore h53 (.mp b) v54 v50) (call m) fun v56 h57 => k m v48 v50 v52 v54 v56 h57)) Q := by
  subst hk
  obtain ⟨h1, q1, m1, x1⟩ := m.entry ht hz a
  obtain ⟨h2, q2, m2, x2⟩ := m1.store (a := a) (mem_insK.2 (.inl rfl)) (f a + 1)
  have e0 := m.look ht hz a
  have e1 := m1.look ht hz a
  have w : IntKind.i64.wrap (f a + 1) = f a + 1 := wrap_id hn.1 hn.2
  have s1 : isV (I (f a)) (some (I (f a))) = true := isV_self _
  simp only [e0, e1, q1, of_some, obv_val, ifb_true, aBin_add, w, arbE_val, arVal_val, s1, ext_tup, List.getElem?_cons_succ, List.getElem?_cons_zero, q2]
  exact q h2 m2 (x1.trans x2)
/-- m[a] = n -/
theorem Tells.mset {k : Nat → AVal → Heap → Res β} (m : Mp K h b ks f) (ht : mapTypes P t = some (kt, et)) {a : α} {κ : AVal} (hk : κ = K.enc a) {n : Int}
    (q : ∀ h', Mp K h' b (insK ks a) (updF f a n) → Ext [b] h h' → Tells (fun m => k m aUndef h') Q) : Tells (fun m => arb (aMapUpdate P h t (.mp b) κ (I n)) (call m) (k m)) Q := by
  subst hk
  obtain ⟨h1, q1, m1, x1⟩ := m.upd ht a n
  simp only [q1, arb_val]
  exact q h1 m1 x1
theorem Tells.msetE {k : Nat → AVal → Heap → Res β} (m : Mp K h b ks f) (ht : mapTypes P t = some (kt, et)) {a : α} {κ : AVal} (hk : κ = K.enc a) {n : Int}
    (q : ∀ h', Mp K h' b (insK ks a) (updF f a n) → Ext [b] h h' → Tells (fun m => k m aUndef h') Q) : Tells (fun m => arbE (aMapUpdate P h t (.mp b) κ (I n)) (call m) (k m)) Q := by
  subst hk
  obtain ⟨h1, q1, m1, x1⟩ := m.upd ht a n
  simp only [q1, arbE_val]
  exact q h1 m1 x1
/-- A new map. -/
theorem Mp.make (h : Heap) : Mp K (h.new true []) h.next [] (fun _ => 0) ∧ Ext [] h (h.new true []) := ⟨Mp.new, Ext.new h true []⟩
end
end Go.Ab
