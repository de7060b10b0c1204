/-
  The abstract machine: every operation.
-/
import Derived.Test.YtochkdifpgelmaaABOp3
import Derived.Test.YtochkdifpgelmaaABMap2
import Derived.Laws.Externs
set_option linter.unusedVariables false
set_option linter.unusedSimpArgs false
namespace Go.Ab

section
variable {n0 : Nat} {w0 : World} {ρ : Ren} {h : Heap} {w : World} {P : Program}

theorem run_callFunc {f : FuncId} (he : enters P f = true) (args : Array Value) (w : World) : (callFunc f args).run P w = .ok (.enter f args) w := by
  unfold enters at he
  split at he
  · rename_i fn hf
    simp only [Bool.and_eq_true, Bool.not_eq_true'] at he
    obtain ⟨h1, h2⟩ := he
    have h3 : fn.body.isNone = false := by cases hb : fn.body <;> simp_all
    simp only [callFunc, Sem.run_bind, run_program, Result.andThen_ok, hf, h1, h3, Bool.false_eq_true, if_false, Sem.run_pure]
  · cases he

theorem nat_row {fn : Func} {s : Array Value → Sem Value} {n : String} (h1 : (n == "runtime.NumGoroutine") = false) (h2 : Extern.allNextRows.lookup n = none) (h3 : Extern.allNextRows.lookup "" = none) (h4 : Extern.allGenericRows.lookup n = none) (h5 : Extern.allTypedRows.lookup n = none) (h6 : Extern.allRows.lookup n = some s)
    (hn : fn.name = n) (ho : fn.origin = "") : (fn.name == "runtime.NumGoroutine") = false ∧ Extern.findNext fn = none ∧ Extern.find fn = some s := by
  refine ⟨by rw [hn]; exact h1, ?_, ?_⟩
  · unfold Extern.findNext
    simp only [hn, ho, h2, h3]
    rfl
  · unfold Extern.find
    simp only [hn, ho, h4, h5, h6]
    rfl
theorem next_none : Extern.allNextRows.lookup "" = none := by kernel_rfl
theorem nat_ext {fn : Func} {s : Array Value → Sem Value} (h : natRow fn = some s) : fn.body.isNone = true ∧ (fn.name == "runtime.NumGoroutine") = false ∧ Extern.findNext fn = none ∧ Extern.find fn = some s := by
  unfold natRow at h
  split at h
  · rename_i hb
    simp only [Bool.and_eq_true, beq_iff_eq] at hb
    refine ⟨hb.1, ?_⟩
    split at h
    · rename_i hn
      cases h
      exact nat_row (by kernel_rfl) (by kernel_rfl) next_none (by kernel_rfl) (by kernel_rfl) (by kernel_rfl) (by simpa using hn) hb.2
    · split at h
      · rename_i hn
        cases h
        exact nat_row (by kernel_rfl) (by kernel_rfl) next_none (by kernel_rfl) (by kernel_rfl) (by kernel_rfl) (by simpa using hn) hb.2
      · split at h
        · rename_i hn
          cases h
          exact nat_row (by kernel_rfl) (by kernel_rfl) next_none (by kernel_rfl) (by kernel_rfl) (by kernel_rfl) (by simpa using hn) hb.2
        · split at h
          · rename_i hn
            cases h
            exact nat_row (by kernel_rfl) (by kernel_rfl) next_none (by kernel_rfl) (by kernel_rfl) (by kernel_rfl) (by simpa using hn) hb.2
          · cases h
  · cases h
theorem nat_ok {f : FuncId} {args : List AVal} {args' : List Value} {v : AVal} (e : aNat P f args = some v) (ha : VRs n0 ρ args args') : ∃ v', (callFunc f args'.toArray).run P w = .ok (.value v') w ∧ VR n0 ρ v v' := by
  unfold aNat at e
  split at e
  · rename_i fn hf
    split at e
    · rename_i s hs
      obtain ⟨h1, h2, h3, h4⟩ := nat_ext hs
      obtain ⟨v', r, q⟩ := pureB_ok (w := w) (P := P) e ha
      exact ⟨v', by rw [run_callFunc_extern hf h2 h1 h3 h4, r]; rfl, q⟩
    · cases e
  · cases e

def OpOk (n0 : Nat) (w0 : World) (P : Program) (ρ : Ren) (h : Heap) (w : World) (s : Sem Next) : AR → Prop
  | .val v h' => (h.next < h'.next → ρ h.next = none) → ∃ ρ' w' x, s.run P w = .ok x w' ∧ ((∃ v', x = .value v' ∧ VR n0 ρ' v v') ∨ (x = .skip ∧ v = aUndef)) ∧ HR n0 w0 ρ' h' w' ∧ St n0 ρ h w ρ' h' w'
  | .call f args h' => h' = h ∧ enters P f = true ∧ ∃ args', VRs n0 ρ args args' ∧ s.run P w = .ok (.enter f args'.toArray) w
  | .pan v h' => h' = h ∧ ∃ v', VR n0 ρ v v' ∧ s.run P w = .halt (.panic v') w
  | .fail => True

theorem OpOk.of_does {s : Sem Value} {v : AVal} {h' : Heap} (k : (h.next < h'.next → ρ h.next = none) → Does n0 w0 P ρ h w s v h') : OpOk n0 w0 P ρ h w (do pure (.value (← s))) (.val v h') := by
  intro hf
  obtain ⟨ρ', w', v', a, b, c, d⟩ := k hf
  exact ⟨ρ', w', .value v', by simp [a], .inl ⟨v', rfl, b⟩, c, d⟩

theorem OpOk.of_same {s : Sem Value} {o : Option AVal} (H : HR n0 w0 ρ h w) (k : ∀ v, o = some v → ∃ v', s.run P w = .ok v' w ∧ VR n0 ρ v v') : OpOk n0 w0 P ρ h w (do pure (.value (← s))) (AR.of o h) := by
  cases o with
  | none => trivial
  | some v => exact .of_does fun _ => .same H (k v rfl)

theorem OpOk.of_ar {s : Sem Value} {r : AR} (h1 : ∀ f args h', r ≠ .call f args h') (h2 : ∀ v h', r ≠ .pan v h')
    (k : ∀ v h', r = .val v h' → (h.next < h'.next → ρ h.next = none) → Does n0 w0 P ρ h w s v h') : OpOk n0 w0 P ρ h w (do pure (.value (← s))) r := by
  cases r with
  | val v h' => exact .of_does (k v h' rfl)
  | call f args h' => exact absurd rfl (h1 f args h')
  | pan v h' => exact absurd rfl (h2 v h')
  | fail => trivial

/-- A value, or nothing. -/
def AR.plain : AR → Bool
  | .val _ _ | .fail => true
  | _ => false

theorem OpOk.of_plain {s : Sem Value} {r : AR} (hp : r.plain = true)
    (k : ∀ v h', r = .val v h' → (h.next < h'.next → ρ h.next = none) → Does n0 w0 P ρ h w s v h') : OpOk n0 w0 P ρ h w (do pure (.value (← s))) r :=
  .of_ar (fun f args h' q => by subst q; cases hp) (fun v h' q => by subst q; cases hp) k

theorem plain_of (o : Option AVal) (h : Heap) : (AR.of o h).plain = true := by cases o <;> rfl
theorem plain_buildSlice {t : TypeId} {len : Nat} {parts : List (Nat × AVal)} : (aBuildSlice P h t len parts).plain = true := by unfold aBuildSlice; (repeat' split) <;> rfl
theorem plain_make {t : TypeId} {l c : AVal} : (aMake P h t l c).plain = true := by unfold aMake; (repeat' split) <;> rfl
theorem plain_conv {s t : TypeId} {x : AVal} : (aConv P h s t x).plain = true := by unfold aConv; (repeat' split) <;> rfl
theorem plain_append {s t : TypeId} {x y : AVal} : (aAppend P h s t x y).plain = true := by unfold aAppend; (repeat' split) <;> rfl
theorem plain_copy {s : TypeId} {x y : AVal} : (aCopy P h s x y).plain = true := by unfold aCopy; (repeat' split) <;> rfl

theorem plain_makeMap {t : TypeId} : (aMakeMap P h t).plain = true := by unfold aMakeMap; split <;> rfl
theorem plain_mapUpdate {t : TypeId} {m k v : AVal} : (aMapUpdate P h t m k v).plain = true := by unfold aMapUpdate; (repeat' split) <;> rfl
theorem plain_mapEntry {t : TypeId} {m k : AVal} : (aMapEntry P h t m k).plain = true := by unfold aMapEntry; (repeat' split) <;> rfl
theorem plain_entryStore {m s v : AVal} : (aEntryStore h m s v).plain = true := by unfold aEntryStore; (repeat' split) <;> rfl

theorem OpOk.of_skip {s : Sem Unit} {r : AR} (hp : r.plain = true)
    (k : ∀ v h', r = .val v h' → v = aUndef ∧ ∃ w', s.run P w = .ok () w' ∧ HR n0 w0 ρ h' w' ∧ St n0 ρ h w ρ h' w') : OpOk n0 w0 P ρ h w (do s; pure .skip) r := by
  cases r with
  | val v h' =>
    intro _
    obtain ⟨rfl, w', a, b, c⟩ := k v h' rfl
    exact ⟨ρ, w', .skip, by simp [a], .inr ⟨rfl, rfl⟩, b, c⟩
  | call f args h' => cases hp
  | pan v h' => cases hp
  | fail => trivial

theorem builtin_ok {b : Builtin} {argTypes : Array TypeId} {type : TypeId} {consts : Array Bool} {args : List AVal} {args' : List Value} (hv : VRs n0 ρ args args') (H : HR n0 w0 ρ h w) :
    OpOk n0 w0 P ρ h w (builtin b argTypes type consts args'.toArray) (aBuiltin P h b argTypes type args) := by
  unfold aBuiltin
  split
  · rename_i t x hat
    have : argTypes = #[t] := by apply Array.ext'; simpa using hat
    subst this
    cases hv with
    | cons a b =>
      cases b
      split
      · rename_i hmt
        exact .of_same H fun v hv => lenM_ok hmt hv a H #[t] type rfl
      · exact .of_same H fun v hv => len_ok hv a w
  · rename_i sT xT s x hat
    have : argTypes = #[sT, xT] := by apply Array.ext'; simpa using hat
    subst this
    cases hv with
    | cons a b =>
      cases b with
      | cons c d => cases d; exact .of_plain plain_append fun v h' e hf => append_ok e a c H hf
  · rename_i dT r d x hat
    have : argTypes = (dT :: r).toArray := by apply Array.ext'; simpa using hat
    subst this
    cases hv with
    | cons a b =>
      cases b with
      | cons c d => cases d; exact .of_plain plain_copy fun v h' e _ => copy_ok (xT := 0) e a c H
  · exact .of_same H fun v e => pureB_ok e hv
  · exact .of_same H fun v e => pureB_ok e hv
  · trivial

theorem VRo.map {e : Operand → AVal} {e' : Operand → Value} (he : ∀ x, VR n0 ρ (e x) (e' x)) (o : Option Operand) : VRo n0 ρ (o.map e) (o.map e') := by
  cases o with
  | none => trivial
  | some x => exact he x

theorem store_ok {t : TypeId} {x y : AVal} {x' y' : Value} (hx : VR n0 ρ x x') (hy : VR n0 ρ y y') (H : HR n0 w0 ρ h w) :
    OpOk n0 w0 P ρ h w (do Instr.storeAt t x' y'; pure .skip) (aStore P h t x y) := by
  unfold aStore
  split
  · rename_i b off n hn
    split
    · rename_i hk
      split
      · rename_i h' hput
        intro _
        cases hx with
        | ptr ha =>
          rename_i a
          have hc := hy.cells (ne_opq_of_one hk.2)
          obtain ⟨w', p1, p2, p3⟩ := H.put hput ha hc (one_cells hc hk.2) P
          have hlen : y'.cells.size = n := by have := hc.length; simp only [Array.length_toList] at this; omega
          refine ⟨ρ, w', .skip, ?_, .inr ⟨rfl, rfl⟩, p2, p3⟩
          simp [Instr.storeAt, Instr.sureAddr, storeVar, run_size hn, hlen, p1]
      · trivial
    · trivial
  · trivial

theorem aOp_ok {e : Operand → AVal} {e' : Operand → Value} (he : ∀ x, VR n0 ρ (e x) (e' x)) (H : HR n0 w0 ρ h w) (o : Oper) : OpOk n0 w0 P ρ h w (execOp e' o) (aOp P e h o) := by
  have nxt : ∀ cs : List AVal, h.next < (h.new true cs).next := fun cs => by simp [Heap.new, Heap.next]
  have toL : ∀ {α β : Type} (f : α → β) (l : Array α), l.map f = (l.toList.map f).toArray := fun f l => by apply Array.ext'; simp
  obtain ⟨dst, op, type, pos, after, guard⟩ := o
  cases op with
  | move x =>
    simp only [execOp, aOp]
    exact fun _ => ⟨ρ, w, .value (e' x), rfl, .inl ⟨_, rfl, he x⟩, H, St.refl⟩
  | assign x =>
    simp only [execOp, aOp]
    exact fun _ => ⟨ρ, w, .value (e' x), rfl, .inl ⟨_, rfl, he x⟩, H, St.refl⟩
  | pick c a b =>
    simp only [execOp, aOp]
    have hc := he c
    split
    · rename_i t ht
      rw [ht] at hc
      intro _
      generalize e' c = cv at hc
      cases hc
      cases t
      · exact ⟨ρ, w, .value (e' b), by simp [asBool], .inl ⟨_, rfl, he b⟩, H, St.refl⟩
      · exact ⟨ρ, w, .value (e' a), by simp [asBool], .inl ⟨_, rfl, he a⟩, H, St.refl⟩
    · trivial
  | alloc t =>
    simp only [execOp, aOp]
    split
    · rename_i z hz; exact .of_does fun hf => alloc_ok hz H (hf (nxt _))
    · trivial
  | box t x =>
    simp only [execOp, aOp]
    split
    · rename_i hk; exact .of_does fun hf => box_ok hk (he x) H (hf (nxt _))
    · trivial
  | build t parts =>
    simp only [execOp, aOp]
    rw [toL]
    exact .of_same H fun v hv => build_ok hv (VRp.map he _) w
  | buildSlice t len parts =>
    simp only [execOp, aOp]
    rw [toL]
    exact .of_plain plain_buildSlice fun v h' k hf => buildSlice_ok k (VRp.map he _) H hf
  | load t a =>
    simp only [execOp, aOp]
    exact .of_same H fun v hv => load_ok hv (he a) H
  | store t a x =>
    simp only [execOp, aOp]
    exact store_ok (he a) (he x) H
  | nilCheck x =>
    simp only [execOp, aOp]
    have hx := he x
    generalize e x = ev at hx
    generalize e' x = ev' at hx
    cases hx with
    | ptr ha => exact fun _ => ⟨ρ, w, .value _, rfl, .inl ⟨_, rfl, .ptr ha⟩, H, St.refl⟩
    | fn h1 h2 => exact fun _ => ⟨ρ, w, .value _, rfl, .inl ⟨_, rfl, .fn h1 h2⟩, H, St.refl⟩
    | iface h1 => exact fun _ => ⟨ρ, w, .value _, rfl, .inl ⟨_, rfl, .iface h1⟩, H, St.refl⟩
    | _ => trivial
  | binOp op t x y yt =>
    simp only [execOp, aOp]
    exact .of_same H fun v hv => bin_ok hv (he x) (he y)
  | unOp op t x =>
    simp only [execOp, aOp]
    exact .of_same H fun v hv => un_ok hv (he x)
  | convert s d x =>
    simp only [execOp, aOp]
    exact .of_plain plain_conv fun v h' k hf => conv_ok k (he x) H hf
  | makeInterface t x =>
    simp only [execOp, aOp]
    split
    · trivial
    · rename_i hi
      refine .of_does fun _ => .same H ⟨.iface t (e' x), ?_, .iface (he x)⟩
      unfold tIface at hi
      cases hu : P.underlying t with
      | none => rw [hu] at hi; exact absurd rfl hi
      | some d =>
        rw [hu] at hi
        simp only [Instr.makeInterface, Sem.run_bind, run_under hu, Result.andThen_ok]
        cases d <;> first | exact absurd rfl hi | simp
  | makeFunc fn first captured =>
    cases fn with
    | func f =>
      simp only [execOp, aOp]
      rw [toL, toL]
      exact .of_does fun _ => .same H ⟨_, rfl, .fn (VRs.map he _) (VRs.map he _)⟩
    | _ => simp only [aOp]; trivial
  | makeSlice t l c =>
    simp only [execOp, aOp]
    exact .of_plain plain_make fun v h' k hf => make_ok k (he l) (he c) H hf
  | slice t x lo hi mx =>
    simp only [execOp, aOp]
    exact .of_same H fun v hv => slice_ok hv (he x) (VRo.map he lo) (VRo.map he hi) (VRo.map he mx) w
  | fieldAddr t x f =>
    simp only [execOp, aOp]
    exact .of_same H fun v hv => fieldAddr_ok hv (he x) w
  | field t x f =>
    simp only [execOp, aOp]
    exact .of_same H fun v hv => field_ok hv (he x) w
  | indexAddr t x i =>
    simp only [execOp, aOp]
    exact .of_same H fun v hv => indexAddr_ok hv (he x) (he i) w
  | index t x i =>
    simp only [execOp, aOp]
    exact .of_same H fun v hv => index_ok hv (he x) (he i) w
  | extract x i =>
    simp only [execOp, aOp]
    have hx := he x
    split
    · rename_i vs hb
      rw [hb] at hx; generalize e' x = xv at hx; cases hx with
      | tup k =>
        exact .of_same H fun v hv => by
          obtain ⟨v', a, b⟩ := k.get hv
          exact ⟨v', by simp [Instr.extract, a], b⟩
    · trivial
  | typeAssert x xt asserted ok =>
    simp only [execOp, aOp]
    exact .of_same H fun v hv => assert_ok hv (he x)
  | call c =>
    simp only [execOp, aOp]
    split
    · rename_i b hc
      simp only [resolve, hc, Sem.run_bind]
      have := builtin_ok (P := P) (b := b) (argTypes := c.argTypes) (type := type) (consts := c.args.map fun | .const _ => true | _ => false) (VRs.map he c.args.toList) H
      rw [← toL] at this
      exact this
    · rename_i f hc
      have hx := he f
      split
      · rename_i g first captured hb
        rw [hb] at hx
        split
        · rename_i hen
          cases hf2 : e' f with
          | func fn fi ca =>
            rw [hf2] at hx
            cases hx with
            | fn h1 h2 =>
              rename_i x' y'
              refine ⟨rfl, hen, x' ++ c.args.toList.map e' ++ y', (h1.append (VRs.map he _)).append h2, ?_⟩
              have hargs : x'.toArray ++ c.args.map e' ++ y'.toArray = (x' ++ c.args.toList.map e' ++ y').toArray := by apply Array.ext'; simp
              simp only [resolve, hc, hf2, Deferred.ofValue, Sem.run_bind, Sem.run_pure, Result.andThen_ok, invoke, run_callFunc hen]
              rw [hargs]
          | _ => rw [hf2] at hx; cases hx
        · cases hnat : aNat P g (first ++ c.args.toList.map e ++ captured) with
          | none => trivial
          | some v =>
            cases hf2 : e' f with
            | func fn fi ca =>
              rw [hf2] at hx
              cases hx with
              | fn h1 h2 =>
                rename_i x' y'
                obtain ⟨v', r, q⟩ := nat_ok (w := w) hnat ((h1.append (VRs.map he c.args.toList)).append h2)
                have hargs : x'.toArray ++ c.args.map e' ++ y'.toArray = (x' ++ c.args.toList.map e' ++ y').toArray := by apply Array.ext'; simp
                refine fun _ => ⟨ρ, w, .value v', ?_, .inl ⟨v', rfl, q⟩, H, St.refl⟩
                simp only [resolve, hc, hf2, Deferred.ofValue, Sem.run_bind, Sem.run_pure, Result.andThen_ok, invoke]
                rw [hargs]
                exact r
            | _ => rw [hf2] at hx; cases hx
      · trivial
    · trivial
  | panic x =>
    simp only [execOp, aOp]
    have hx := he x
    split
    · rename_i t v hb
      rw [hb] at hx; generalize e' x = xv at hx; cases hx with
      | iface k => exact ⟨rfl, _, .iface k, by simp [Instr.panic]⟩
    · trivial
  | makeMap t r =>
    cases r with
    | none =>
      simp only [execOp, aOp]
      exact .of_plain plain_makeMap fun v h' k hf => makeMap_ok k H hf
    | some r => simp only [aOp]; trivial
  | lookup t m k ok =>
    simp only [execOp, aOp]
    exact .of_same H fun v hv => lookup_ok hv (he m) (he k) H
  | mapUpdate t m k x =>
    simp only [execOp, aOp]
    exact .of_skip plain_mapUpdate fun v h' e => mapUpdate_ok e (he m) (he k) (he x) H
  | mapEntry t m k =>
    simp only [execOp, aOp]
    exact .of_plain plain_mapEntry fun v h' e _ => mapEntry_ok e (he m) (he k) H
  | entryStore t m s x =>
    simp only [execOp, aOp]
    exact .of_skip plain_entryStore fun v h' e => entryStore_ok e (he m) (he s) (he x) H
  | _ => simp only [aOp]; trivial

end
end Go.Ab
