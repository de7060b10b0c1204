/-
  A slice, or an empty one that hangs somewhere in the world that was there at first.
-/
import Derived.Test.YtbolfamaffbnnaaRawC
import Derived.Test.YtbolfamaffbnnaaArg0
set_option linter.unusedVariables false
set_option linter.unusedSimpArgs false
namespace Go.Ab

def SlN {α : Type} (r : Rp α) (h : Heap) (v : AVal) (xs : List α) : Prop := Sl r h v xs ∨ (xs = [] ∧ ∃ b sz, v = .sl b 0 0 0 sz true ∧ b < h.n0)
section
variable {α : Type} {r : Rp α} {S : List Nat} {h0 h h' : Heap} {v : AVal} {xs ys : List α}
theorem SlN.z (o : SlN r h v xs) : SlZ r h v xs := o.imp id fun ⟨e, b, sz, q, _⟩ => ⟨e, b, sz, q⟩
theorem SlN.ext (o : SlN r h v xs) (e : Ext S h h') : SlN r h' v xs := o.imp (fun k => k.ext e) fun ⟨a, b, sz, q, k⟩ => ⟨a, b, sz, q, by rw [e.n0]; exact k⟩
theorem SlN.len (o : SlN r h v xs) : lenL v = some (I xs.length) := o.z.len
theorem SlN.one (o : SlN r h v xs) : v.one = true := o.z.one
theorem SlN.known (o : SlN r h v xs) : v.known = true := o.z.known
theorem SlN.cells (o : SlN r h v xs) : v.cells = [v] := o.z.cells
theorem SlN.nil : SlN r h .nils [] := .inl Sl.nil
theorem SlN.sl (o : SlN r h v xs) (hx : 0 < xs.length) : Sl r h v xs := o.z.sl hx
theorem SlN.at (o : SlN r h v xs) {n : Nat} (hn : r.n = n) {i : Int} {x : α} (hi : 0 ≤ i) (hx : xs[i.toNat]? = some x) : ∃ b p B c, ixsR n v (.int .i64 i) = some (.ptr b p) ∧ Elem h b p B c ∧ r.rep h c x :=
  (o.sl (by have := (List.getElem?_eq_some_iff.1 hx).1; omega)).at hn hi hx
theorem SlN.blk (o : SlN r h v xs) : ∀ b, b ∈ v.blks → h.isM b = false ∧ b < h.next := by
  rcases o with o | ⟨_, b, sz, rfl, k⟩
  · exact o.blk
  · intro c hc
    simp [AVal.blks] at hc
    subst hc
    refine ⟨?_, by have := n0_le h; omega⟩
    unfold Heap.isM
    rw [if_neg (by omega)]
theorem SlN.ob {bp : Nat} {cs : List AVal} (o : SlN r h v xs) (ob : Ob h bp cs) : bp ∉ v.blks := fun hb => by
  have := (o.blk bp hb).1
  rw [ob.2.1] at this; cases this
theorem SlN.extC {b : Nat} (flat : ∀ {h h' cs x}, r.rep h cs x → r.rep h' cs x) (o : SlN r h v xs) (x : ExtC b h h') (a : Apart h b v) : SlN r h' v xs := o.imp (fun k => k.extC flat x a) fun ⟨e, c, sz, q, k⟩ => ⟨e, c, sz, q, by rw [x.n0]; exact k⟩
theorem SlN.imp {r' : Rp α} (o : SlN r h v xs) (hn : r'.n = r.n) (f : ∀ cs x, r.rep h cs x → r'.rep h cs x) : SlN r' h v xs := Or.imp (fun k => k.imp hn f) id o
theorem SlN.fam (F : Fam α) {Z Z' : Nat → Prop} (o : SlN (F.r Z) h v xs) (hz : ∀ q, q < h.next → Z q → Z' q) : SlN (F.r Z') h v xs := Or.imp (fun k => k.fam F hz) id o
theorem SlN.famC (F : Fam α) {b : Nat} {Z : Nat → Prop} (o : SlN (F.r Z) h v xs) (x : ExtC b h h') (hz : ¬ Z (h.root b)) (a : Apart h b v) : SlN (F.r Z) h' v xs := Or.imp (fun k => k.famC F x hz a) (fun ⟨e, c, sz, q, k⟩ => ⟨e, c, sz, q, by rw [x.n0]; exact k⟩) o
theorem SlN.takeR {n : Nat} (o : SlN r h v xs) (hn : r.n = n) {hi : Nat} (h2 : hi ≤ xs.length) : ∃ v', slcR n v none (some (.int .i64 hi)) none = some v' ∧ SlN r h v' (xs.take hi) ∧ v'.blks = v.blks := by
  rcases o with o | ⟨rfl, b, sz, rfl, k⟩
  · obtain ⟨v', q1, q2, q3⟩ := o.takeR hn h2
    exact ⟨v', q1, .inl q2, q3⟩
  · have : hi = 0 := by simpa using h2
    subst this
    exact ⟨.sl b 0 0 0 sz true, by simp [slcR, aBoundO, aBound], .inr ⟨rfl, b, sz, rfl, k⟩, rfl⟩
end

section
variable {β : Type} {Q : β → Heap → Prop} {h : Heap} {call : Nat → FuncId → List AVal → Heap → Res AVal}
theorem Tells.copyN {α : Type} {r : Rp α} {ys : List α} {v : AVal} {n by_ : Nat} {k : Nat → AVal → Heap → Res β} (o : SlN r h v ys) (hn : r.n = n) (hl : ys.length ≤ 2 ^ 33) (hby : by_ ≤ 2 ^ 12) (q : ∀ s' h', Gl r h h' s' ys → Ext [] h h' → Wr h h' s' → Tells (fun m => k m s' h') Q) :
    Tells (fun m => arb (appR n by_ h .nils v) (call m) (k m)) Q := by
  rcases o with o | ⟨rfl, b, sz, rfl, _⟩
  · exact Tells.copy o hn hl hby q
  · have e : appR n by_ h .nils (.sl b 0 0 0 sz true) = .val .nils h := by simp [appR, aSource]
    simp only [e, arb_val]
    exact q _ _ Gl.nil .refl fun b hb => by simp [AVal.blks] at hb
theorem Tells.copyZN {α : Type} {F : Fam α} {Z : Nat → Prop} {K : Nat} {ys : List α} {v : AVal} {n by_ : Nat} {k : Nat → AVal → Heap → Res β} (o : SlN (F.r Z) h v ys) (hz : ∀ q, q < h.next → Z q → K ≤ q) (hn : F.n = n) (hl : ys.length ≤ 2 ^ 33) (hby : by_ ≤ 2 ^ 12)
    (q : ∀ s' h', RowZ F K h h' s' ys → Ext [] h h' → Tells (fun m => k m s' h') Q) :
    Tells (fun m => arb (appR n by_ h .nils v) (call m) (k m)) Q := by
  rcases o with o | ⟨rfl, b, sz, rfl, _⟩
  · exact Tells.copyZ o hz hn hl hby q
  · have e : appR n by_ h .nils (.sl b 0 0 0 sz true) = .val .nils h := by simp [appR, aSource]
    simp only [e, arb_val]
    exact q _ _ RowZ.nil .refl
end
end Go.Ab
