/-
  The abstract machine: from what an open law's run tells to the law's row.
-/
import Derived.Test.YtochkdifpgelmaaABS
import Derived.WalkKit
import Derived.ProofKit
import Derived.OpenShut
set_option linter.unusedVariables false
set_option linter.unusedSimpArgs false
namespace Go.Ab
open Go.ChangeShapes Go.WideShapes Go.ChangeAt Go.RowKit

theorem lift_open {H : Type} {enc : TypeId × Value → H} {C : Checked} {P : Program} (hP : C.prog = P) {X : XTab} {os : Os} {f : FuncId} {fn : Func} {s : ChangeSpec} {conds : List PathCond} {t : TypeId} {ts : List TypeId}
    (own : ownKnob P.godebug = none) (started : os.Started) (noInit : P.inits.idxOf? f = none) (hfn : P.funcs[f]? = some fn)
    (witness : ∃ (w : World) (tape : Tape) (i : Input), w.os = os ∧ (w.forCall tape i).Shaped C.prog ∧ i.vars = [] ∧ Input.okWide C.prog (w.forCall tape i) .any w.heap.size f i ∧
      s.pre6 enc C.prog fn conds false (w.forCall tape i).memory i.args ∧ Assume.holds {} C.prog (lone (Frame.enter C.prog f i.args .normal) [] (w.forCall tape i)))
    (hm : P.follows .mixedOrders = true) (hs : progSlots P = true) (hX : XOk P X) (hv : s.vars = []) (hl : laidOutB P = true) (hpar : fn.params.toList = ts)
    (hp : (ts.all fun t => P.readableRec t && decide (t < P.types.size)) = true) (ht : fn.resultTypes = #[t]) (hu : P.underlying t = some .bool)
    (hsf : ∀ ds : List (DataW H), ds.length = ts.length → s.fn H ds = { results := [.lit (.bool true)], args := ds })
    (contract : ∀ (W : World) (base : Nat) (vs : List Value) (ds : List (DataW H)) (p : List MemPlace), (∀ (j : Nat) t v, ts[j]? = some t → vs[j]? = some v → Value.okWide P W .any base t v) →
      DataW.TrodAll enc P W 0 (fun _ => true) true ts vs ds p → Tells (fun m => acallX P X m f (ofVs W.heap.size vs) (Heap.ofW W)) fun a _ => a = .bool true) :
    ReturnsInHanded {} C os f .any (s.pre6 enc C.prog fn conds false) (s.post enc C.prog fn false true false false) := by
  subst hP
  refine returnsInHanded_of_change own started noInit hfn witness ?_
  intro W base args ds gs before hval hW hcnd _
  have hW' := hW
  obtain ⟨p, q, hA, hV, hb, hfz, hnd⟩ := hW'
  rw [hpar] at hA
  obtain ⟨a, h', rfl, M, hM⟩ := contract W base args.toList ds p (fun j t v h1 h2 => hval j t v (by rw [← Array.getElem?_toList, hpar]; exact h1) (by rw [← Array.getElem?_toList]; exact h2)) hA
  have hok : okTrue (acallX C.prog X M f (ofVs W.heap.size args.toList) (Heap.ofW W)) = true := by
    have := hM M (Nat.le_refl _)
    simp only at this
    rw [this]; rfl
  have := calls_of_acallX hm hs hX hok
  rw [Array.toArray_toList] at this
  refine this.mono fun e W' ⟨he, hB⟩ => ?_
  exact ⟨_, he, post_true hW hB hv hl (by rw [hpar]; exact hp) ht hu (fun ds hd => hsf ds (by rw [hpar] at hd; exact hd))⟩

end Go.Ab
