/-
  The abstract machine: from what it tells to a row.
-/
import Derived.Test.YtochkdifpgelmaaABDefer
import Derived.ProofKit
import Derived.Carry
import Derived.OpenShut
set_option linter.unusedVariables false
set_option linter.unusedSimpArgs false
namespace Go.Ab
open Go.ChangeShapes Go.WideShapes Go.ChangeAt Go.RowKit

def okTrue : Res AVal → Bool
  | .ok (.bool true) _ => true
  | _ => false

/-- The heap that a call is given, as the abstract machine sees it. -/
def Heap.ofW (w : World) : Heap := ⟨w.heap.size, fun b => match w.heap[b]? with
  | some (.cells C _ _) => some (ofVs w.heap.size C.toList)
  | _ => none, .nil, 0, .nil, .nil, .nil, .nil⟩

theorem ofVs_get (n : Nat) : ∀ (l : List Value) (i : Nat) (v : AVal), (ofVs n l)[i]? = some v → ∃ v', l[i]? = some v' ∧ v = ofV n v'
  | [], i, v, h => by simp [ofVs] at h
  | x :: r, 0, v, h => by simp [ofVs] at h; exact ⟨x, rfl, h.symm⟩
  | x :: r, i + 1, v, h => by simp only [ofVs, List.getElem?_cons_succ] at h ⊢; exact ofVs_get n r i v h

theorem ofW_HR (w : World) : HR w.heap.size w (fun _ => none) (Heap.ofW w) w := by
  have hg : ∀ b cs, (Heap.ofW w).get b = some cs → b < w.heap.size ∧ ∃ C e fz, w.heap[b]? = some (.cells C e fz) ∧ cs = ofVs w.heap.size C.toList := by
    intro b cs h
    unfold Heap.get Heap.ofW at h
    simp only at h
    split at h
    · rename_i hb
      refine ⟨hb, ?_⟩
      split at h
      · rename_i C e fz hw; cases h; exact ⟨C, e, fz, hw, rfl⟩
      · cases h
    · split at h
      · simp [Tr.get] at h
      · cases h
  refine ⟨rfl, Nat.le_refl _, fun b cs _ h => ?_, fun b cs hb h => ?_, fun b c l m x y hb hc h => ?_, Below.refl _ _⟩
  · obtain ⟨_, C, e, fz, h1, rfl⟩ := hg b cs h
    refine ⟨C, e, fz, h1, fun i v hi => ?_⟩
    obtain ⟨v', h2, rfl⟩ := ofVs_get _ _ i v hi
    exact ⟨v', by simpa using h2, ofV_VR _ (Nat.le_refl _) v'⟩
  · exact absurd (hg b cs h).1 (by omega)
  · exact absurd (hg b x h).1 (by omega)

theorem empty_HR (w : World) : HR 0 w (fun _ => none) Heap.empty w := by
  have hg : ∀ b cs, Heap.empty.get b ≠ some cs := by
    intro b cs h
    unfold Heap.get Heap.empty at h
    simp only at h
    split at h
    · cases h
    · simp [Tr.get] at h
  exact ⟨rfl, Nat.zero_le _, fun b cs _ h => absurd h (hg b cs), fun b cs _ h => absurd h (hg b cs), fun b c l m x y _ _ h => absurd h (hg b x), Below.refl _ _⟩

/-- What is told of a call in its own world is so. -/
theorem calls_of_acall {P : Program} (hm : P.follows .mixedOrders = true) (hs : progSlots P = true) {n : Nat} {f : FuncId} {args : List Value} {w : World}
    (h : okTrue (acall P n f (ofVs w.heap.size args) (Heap.ofW w)) = true) : Calls P f args.toArray w fun e w' => e = .returned (.bool true) ∧ Below w.heap.size w w' := by
  cases hr : acall P n f (ofVs w.heap.size args) (Heap.ofW w) with
  | ok v h' =>
    rw [hr] at h
    have hv : v = .bool true := by unfold okTrue at h; split at h <;> simp_all
    subst hv
    obtain ⟨_, k⟩ := acall_ok (n0 := w.heap.size) (w0 := w) hm hs n f (ofVs w.heap.size args) (Heap.ofW w) (by rw [hr]; simp)
    refine (k (fun _ => none) w args (ofVs_VRs _ (Nat.le_refl _) args) (ofW_HR w) fun _ _ _ => rfl).mono fun e w' q => ?_
    rw [hr] at q
    obtain ⟨ρ', v', rfl, q2, q3, _⟩ := q
    cases q2
    exact ⟨rfl, q3.below⟩
  | _ => rw [hr] at h; cases h

theorem calls_of_closed {P : Program} (hm : P.follows .mixedOrders = true) (hs : progSlots P = true) {n : Nat} {f : FuncId} (h : okTrue (acall P n f [] Heap.empty) = true) (w : World) :
    Calls P f #[] w fun e w' => e = .returned (.bool true) ∧ Below w.heap.size w w' := by
  cases hr : acall P n f [] Heap.empty with
  | ok v h' =>
    rw [hr] at h
    have hv : v = .bool true := by unfold okTrue at h; split at h <;> simp_all
    subst hv
    obtain ⟨_, k⟩ := acall_ok (n0 := 0) (w0 := w) hm hs n f [] Heap.empty (by rw [hr]; simp)
    refine (k (fun _ => none) w [] .nil (empty_HR w) fun _ _ _ => rfl).mono fun e w' q => ?_
    rw [hr] at q
    obtain ⟨ρ', v', rfl, q2, q3, _⟩ := q
    cases q2
    exact ⟨rfl, q3.below⟩
  | _ => rw [hr] at h; cases h

/-! ### The row's end -/

theorem trodAll_below {H : Type} {enc : TypeId × Value → H} {P : Program} (hl : laidOutB P = true) {W W' : World} (hB : Below W.heap.size W W') : ∀ {ts : List TypeId} {vs : List Value} {ds : List (DataW H)} {ps : List MemPlace},
    (ts.all fun t => P.readableRec t && decide (t < P.types.size)) = true → DataW.TrodAll enc P W 0 (fun _ => true) true ts vs ds ps → (∀ x ∈ ps, x.block < W.heap.size) →
    DataW.TrodAll enc P W' 0 (fun b => decide (b < W.heap.size)) true ts vs ds ps
  | [], [], [], ps, _, h, _ => h
  | [], [], _ :: _, _, _, h, _ => h.elim
  | [], _ :: _, _, _, _, h, _ => h.elim
  | _ :: _, [], _, _, _, h, _ => h.elim
  | _ :: _, _ :: _, [], _, _, h, _ => h.elim
  | t :: ts, v :: vs, d :: ds, ps, ho, h, hlt => by
    obtain ⟨p, q, h1, h2, rfl⟩ := h
    simp only [List.all_cons, Bool.and_eq_true, decide_eq_true_eq] at ho
    exact ⟨p, q, Below.trod hl ho.1.1 ho.1.2 h1 hB (fun x hx => hlt x (List.mem_append_left _ hx)), trodAll_below hl hB ho.2 h2 (fun x hx => hlt x (List.mem_append_right _ hx)), rfl⟩

theorem trodAll_length {H : Type} {enc : TypeId × Value → H} {P : Program} {W : World} {b : Nat} {sp : Nat → Bool} {hd : Bool} : ∀ {ts : List TypeId} {vs : List Value} {ds : List (DataW H)} {ps : List MemPlace},
    DataW.TrodAll enc P W b sp hd ts vs ds ps → ds.length = ts.length
  | [], [], [], _, _ => rfl
  | [], [], _ :: _, _, h => h.elim
  | [], _ :: _, _, _, h => h.elim
  | _ :: _, [], _, _, h => h.elim
  | _ :: _, _ :: _, [], _, h => h.elim
  | t :: ts, v :: vs, d :: ds, ps, h => by
    obtain ⟨p, q, h1, h2, rfl⟩ := h
    simp [trodAll_length h2]

theorem post_true {H : Type} {enc : TypeId × Value → H} {P : Program} {f : Func} {s : ChangeSpec} {W W' : World} {args : Array Value} {ds gs : List (DataW H)} {before : List MemPlace} {t : TypeId}
    (hW : DataW.Whole enc P f.params.toList s.vars false W args.toList ds gs before) (hB : Below W.heap.size W W') (hv : s.vars = []) (hl : laidOutB P = true)
    (hp : (f.params.toList.all fun t => P.readableRec t && decide (t < P.types.size)) = true) (ht : f.resultTypes = #[t]) (hu : P.underlying t = some .bool)
    (hs : ∀ ds : List (DataW H), ds.length = f.params.toList.length → s.fn H ds = { results := [.lit (.bool true)], args := ds }) :
    s.post enc P f false true false false W args (.bool true) W' := by
  have hlt := hW.lt
  obtain ⟨p, q, h1, h2, h3, h4, h5⟩ := hW
  have hgs : gs = [] ∧ q = [] := by
    rw [hv] at h2
    cases gs with
    | nil => exact ⟨rfl, h2⟩
    | cons _ _ => exact h2.elim
  obtain ⟨rfl, rfl⟩ := hgs
  have hfn := hs ds (trodAll_length h1)
  have hb : before = p := by simpa using h3
  subst hb
  refine ⟨ds, [], before, [], before, [], ⟨before, [], h1, h2, h3, h4, h5⟩, ?_, ?_, ?_, hB.frame _, fun h => by cases h⟩
  · rw [List.append_nil, hfn, ht]
    exact ⟨[], [], shut_bool hu true, rfl, rfl⟩
  · rw [List.append_nil, hfn]
    exact trodAll_below hl hB hp h1 hlt
  · rw [List.append_nil, hfn, hv]
    rfl

end Go.Ab
