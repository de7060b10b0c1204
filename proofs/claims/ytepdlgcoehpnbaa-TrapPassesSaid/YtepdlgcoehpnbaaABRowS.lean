/-
  The abstract machine: from what an open law's run tells to the law's row, where the law wants to know that no text that is handed in is too long for a machine.
-/
import Derived.Test.YtepdlgcoehpnbaaABRow
import Derived.SizedLaws
import Derived.ChangeMaps5
set_option linter.unusedVariables false
set_option linter.unusedSimpArgs false
namespace Go.Ab
open Go.ChangeShapes Go.WideShapes Go.ChangeAt Go.RowKit

/-- No text that is handed in is too long. -/
def Short {H : Type} (ts : List TypeId) (ds : List (DataW H)) : Prop := ∀ (j : Nat) (t : TypeId) (bytes : List UInt8), ts[j]? = some t → ds[j]? = some (.lit (.string bytes)) → bytes.length ≤ reachBytes

theorem arg_strS {H : Type} {enc : TypeId × Value → H} {P : Program} {W : World} {b0 base : Nat} {sp : Nat → Bool} {held : Bool} {t : TypeId} {v : Value} {d : DataW H} {ps : List MemPlace} {ts : List TypeId} {ds : List (DataW H)} (ht : P.underlying t = some .string)
    (hval : Value.okWide P W .any b0 t v) (hd : DataW.Trod enc P W base sp held t v d ps) (hs : Short ts ds) (j : Nat) (h1 : ts[j]? = some t) (h2 : ds[j]? = some d) (n : Nat) : ∃ s : ByteArray, ofV n v = .str s ∧ s.size < 2 ^ 61 := by
  obtain ⟨s, rfl, rfl, rfl, _⟩ := Go.ChangeMaps.open_string ht hval hd
  have := hs j t _ h1 h2
  have h3 := reachBytes_lt
  refine ⟨s, rfl, ?_⟩
  have h4 : s.data.toList.length = s.size := by simp
  omega

theorem lift_open_sized {H : Type} {enc : TypeId × Value → H} {C : Checked} {P : Program} (hP : C.prog = P) {X : XTab} {os : Os} {f : FuncId} {fn : Func} {s : ChangeSpec} {conds : List PathCond} {t : TypeId} {ts : List TypeId}
    (own : ownKnob P.godebug = none) (started : os.Started) (noInit : P.inits.idxOf? f = none) (hfn : P.funcs[f]? = some fn)
    (witness : ∃ (w : World) (tape : Tape) (i : Input), w.os = os ∧ (w.forCall tape i).Shaped C.prog ∧ i.vars = [] ∧ Input.okWide C.prog (w.forCall tape i) .any w.heap.size f i ∧
      s.pre6 enc C.prog fn conds false (w.forCall tape i).memory i.args ∧ Assume.holds {} C.prog (lone (Frame.enter C.prog f i.args .normal) [] (w.forCall tape i)))
    (hm : P.follows .mixedOrders = true) (hs : progSlots P = true) (hX : XOk P X) (hv : s.vars = []) (hl : laidOutB P = true) (hpar : fn.params.toList = ts)
    (hp : (ts.all fun t => P.readableRec t && decide (t < P.types.size)) = true) (ht : fn.resultTypes = #[t]) (hu : P.underlying t = some .bool)
    (hsf : ∀ ds : List (DataW H), ds.length = ts.length → s.fn H ds = { results := [.lit (.bool true)], args := ds })
    (contract : ∀ (W : World) (base : Nat) (vs : List Value) (ds : List (DataW H)) (p : List MemPlace), (∀ (j : Nat) t v, ts[j]? = some t → vs[j]? = some v → Value.okWide P W .any base t v) →
      DataW.TrodAll enc P W 0 (fun _ => true) true ts vs ds p → Short ts ds → Tells (fun m => acallX P X m f (ofVs W.heap.size vs) (Heap.ofW W)) fun a _ => a = .bool true) :
    ReturnsInHanded {} C os f .any (s.pre6 enc C.prog fn conds false) (s.post enc C.prog fn false true false false) := by
  subst hP
  refine returnsInHanded_of_change_sized own started noInit hfn witness ?_
  intro W base args ds gs before hval hW hcnd hwt _
  have hW' := hW
  obtain ⟨p, q, hA, hV, hb, hfz, hnd⟩ := hW'
  rw [hpar] at hA hwt
  have hshort : Short ts ds := fun j t bytes h1 h2 => sized_string hwt (j := j) (t := t) (by
    rw [List.getElem?_append_left (List.getElem?_eq_some_iff.1 h1).1]; exact h1) (by rw [List.getElem?_append_left (List.getElem?_eq_some_iff.1 h2).1]; exact h2)
  obtain ⟨a, h', rfl, M, hM⟩ := contract W base args.toList ds p (fun j t v h1 h2 => hval j t v (by rw [← Array.getElem?_toList, hpar]; exact h1) (by rw [← Array.getElem?_toList]; exact h2)) hA hshort
  have hok : okTrue (acallX C.prog X M f (ofVs W.heap.size args.toList) (Heap.ofW W)) = true := by
    have := hM M (Nat.le_refl _)
    simp only at this
    rw [this]; rfl
  have := calls_of_acallX hm hs hX hok
  rw [Array.toArray_toList] at this
  refine this.mono fun e W' ⟨he, hB⟩ => ?_
  exact ⟨_, he, post_true hW hB hv hl (by rw [hpar]; exact hp) ht hu (fun ds hd => hsf ds (by rw [hpar] at hd; exact hd))⟩

end Go.Ab
