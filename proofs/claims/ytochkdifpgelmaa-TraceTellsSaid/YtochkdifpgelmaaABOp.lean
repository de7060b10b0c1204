/-
  The abstract machine: what one operation tells, the model's operation does.
-/
import Derived.Test.YtochkdifpgelmaaABHeap
set_option linter.unusedVariables false
set_option linter.unusedSimpArgs false
namespace Go.Ab

section
variable {n0 : Nat} {w0 : World} {ρ : Ren} {h : Heap} {w : World} {P : Program}

/-! ### Small words of the model -/

theorem aPure_run {α : Type} {s : Sem α} {r : α} (e : aPure P s = some r) (w : World) : s.run P w = .ok r w := by
  induction s with
  | pure a => simp only [aPure, Option.some.injEq] at e; subst e; rfl
  | program k ih => simp only [aPure] at e; exact ih P e
  | mark m k ih => simp only [aPure] at e; exact ih e
  | _ => simp [aPure] at e

theorem run_under {t : TypeId} {d : TypeDesc} (e : P.underlying t = some d) (w : World) : (underlying t).run P w = .ok d w := by simp [underlying, e]
theorem run_info {t : TypeId} {i : TypeInfo} (e : P.info? t = some i) (w : World) : (typeInfo t).run P w = .ok i w := by simp [typeInfo, e]

theorem run_isAgg {t : TypeId} {b : Bool} (e : tAgg P t = some b) (w : World) : (isAgg t).run P w = .ok b w := by
  unfold tAgg at e
  split at e <;> cases e <;> rename_i hu
  · simp [isAgg, run_under hu]
  · simp [isAgg, run_under hu]
  · rename_i d hne hne2
    simp only [isAgg, Sem.run_bind, run_under hu, Result.andThen_ok]
    rfl

theorem run_size {t : TypeId} {n : Nat} (e : tSize P t = some n) (w : World) : (sizeOf t).run P w = .ok n w := by
  unfold tSize at e
  split at e
  · rename_i i hi; cases e; simp [sizeOf, run_info hi]
  · cases e

theorem tZero_eq {t : TypeId} {z : AVal} (e : tZero P t = some z) : ∃ i v, P.info? t = some i ∧ i.zero = some v ∧ z = ofV 0 v ∧ z.known = true := by
  unfold tZero at e
  split at e
  · rename_i i hi
    split at e
    · rename_i v hv
      split at e
      · rename_i hk; cases e; exact ⟨i, v, hi, hv, rfl, hk⟩
      · cases e
    · cases e
  · cases e

theorem run_zero {t : TypeId} {z : AVal} (e : tZero P t = some z) (w : World) : ∃ v, (zeroValue t).run P w = .ok v w ∧ z = ofV 0 v := by
  obtain ⟨i, v, hi, hv, hz, _⟩ := tZero_eq e
  exact ⟨v, by simp [zeroValue, run_info hi, hv], hz⟩

theorem known_ne {v : AVal} (e : v.known = true) : v ≠ .opq := by rintro rfl; cases e

theorem ofV0 (v : Value) : VR n0 ρ (ofV 0 v) v := ofV_VR 0 (Nat.zero_le _) v

theorem one_cell {v : AVal} {v' : Value} (k : VR n0 ρ v v') (e : v.one = true) : v'.oneCell' = true := by
  cases k <;> simp [AVal.one] at e <;> rfl

theorem one_cells {vs : List AVal} {vs' : List Value} (k : VRs n0 ρ vs vs') (e : vs.all AVal.one = true) : ∀ v ∈ vs', v.oneCell' = true := by
  intro v hv
  obtain ⟨i, hi⟩ := List.getElem?_of_mem hv
  obtain ⟨u, h1, h2⟩ := k.get' hi
  exact one_cell h2 (List.all_eq_true.1 e u (List.mem_of_getElem? h1))

theorem ne_opq_of_one {v : AVal} (e : v.cells.all AVal.one = true) : v ≠ .opq := by
  rintro rfl; simp [AVal.cells, AVal.one] at e

/-! ### Reading -/

theorem load_ok {t : TypeId} {x v : AVal} {x' : Value} (e : aLoad P h t x = some v) (hx : VR n0 ρ x x') (H : HR n0 w0 ρ h w) :
    ∃ v', (Instr.loadAt t x').run P w = .ok v' w ∧ VR n0 ρ v v' := by
  unfold aLoad at e
  cases hx <;> simp only at e <;> try cases e
  rename_i b off a ha
  split at e
  · rename_i hg
    split at e
    · rename_i n hn
      split at e
      · rename_i cs hcs
        cases e
        obtain ⟨cs', h1, h2, h3⟩ := H.cells hcs ha
        have hl := run_loadCells_list (P := P) w a cs' h3
        rw [h1] at hl
        exact ⟨_, by simp [Instr.loadAt, Instr.sureAddr, loadVar, run_isAgg hg, run_size hn, hl], .agg h2⟩
      · cases e
    · cases e
  · rename_i hg
    obtain ⟨v', h1, h2⟩ := H.cell e ha
    exact ⟨v', by simp [Instr.loadAt, Instr.sureAddr, loadVar, run_isAgg hg, h1], h2⟩
  · cases e

theorem part_ok {t : TypeId} {cs : List AVal} {cs' : List Value} {off : Nat} {v : AVal} (e : aPart P t cs off = some v) (hx : VRs n0 ρ cs cs') (w : World) :
    ∃ v', (part t cs'.toArray off).run P w = .ok v' w ∧ VR n0 ρ v v' := by
  unfold aPart at e
  split at e
  · rename_i hg
    split at e
    · rename_i n hn
      split at e
      · rename_i hl
        cases e
        refine ⟨.agg ((cs'.drop off).take n).toArray, ?_, .agg ((hx.drop off).take n)⟩
        simp [part, run_isAgg hg, run_size hn]
      · cases e
    · cases e
  · rename_i hg
    obtain ⟨v', h1, h2⟩ := hx.get e
    exact ⟨v', by simp [part, run_isAgg hg, h1], h2⟩
  · cases e

theorem field_ok {t : TypeId} {x v : AVal} {x' : Value} {f : Nat} (e : aField P t x f = some v) (hx : VR n0 ρ x x') (w : World) :
    ∃ v', (Instr.field t x' f).run P w = .ok v' w ∧ VR n0 ρ v v' := by
  unfold aField at e
  split at e
  · rename_i fields cs hu
    split at e
    · rename_i fd hfd
      cases hx with
      | agg k =>
        obtain ⟨v', h1, h2⟩ := part_ok e k w
        exact ⟨v', by simp [Instr.field, run_under hu, hfd, asAgg, h1], h2⟩
    · cases e
  · cases e

theorem index_ok {t : TypeId} {x i v : AVal} {x' i' : Value} (e : aIndex P t x i = some v) (hx : VR n0 ρ x x') (hi : VR n0 ρ i i') (w : World) :
    ∃ v', (Instr.index t x' i').run P w = .ok v' w ∧ VR n0 ρ v v' := by
  unfold aIndex at e
  split at e
  · rename_i len elem cs k n hu
    split at e
    · rename_i hn
      split at e
      · rename_i z hz
        cases hx with
        | agg kk =>
          cases hi
          obtain ⟨v', h1, h2⟩ := part_ok e kk w
          exact ⟨v', by simp [Instr.index, asIntOf, run_under hu, hn, run_size hz, h1], h2⟩
      · cases e
    · cases e
  · rename_i s k n hu
    split at e
    · rename_i hn
      split at e
      · rename_i b hb
        cases e; cases hx; cases hi
        have hb' : s[n.toNat]? = some b := by
          simp only [Array.getElem?_toList] at hb
          obtain ⟨h1, h2⟩ := Array.getElem?_eq_some_iff.1 hb
          exact (getElem?_pos s n.toNat h1).trans (congrArg some h2)
        exact ⟨.int .u8 b.toNat, by simp [Instr.index, asIntOf, run_under hu, hn, hb'], .int _ _⟩
      · cases e
    · cases e
  · cases e

theorem tr_add {b off n : Nat} {a : Addr} (ha : tr n0 ρ b off = some a) : tr n0 ρ b (off + n) = some (a.add n) := by
  unfold tr at ha ⊢
  split at ha
  · rename_i hb; cases ha; rw [if_pos hb, addr_add]
  · rename_i hb
    rw [if_neg hb]
    split at ha
    · rename_i l hl
      split at ha
      · cases ha
      · rename_i hm
        cases ha
        simp only [addr_add, Nat.add_assoc, if_neg hm]
    · cases ha

theorem tr_of {b off : Nat} {l : RLoc} (hb : n0 ≤ b) (e : ρ b = some l) (hm : l.mp = false) : tr n0 ρ b off = some ⟨l.blk, l.shift + off, none⟩ := by
  unfold tr; rw [if_neg (by omega), e]; simp [hm]

theorem fieldAddr_ok {t : TypeId} {x v : AVal} {x' : Value} {f : Nat} (e : aFieldAddr P t x f = some v) (hx : VR n0 ρ x x') (w : World) :
    ∃ v', (Instr.fieldAt t x' f).run P w = .ok v' w ∧ VR n0 ρ v v' := by
  unfold aFieldAddr at e
  split at e
  · rename_i fields b off hu
    split at e
    · rename_i fd hfd
      split at e
      · rename_i n hn
        split at e
        · cases e
        · rename_i hn0
          cases e
          cases hx with
          | ptr ha =>
            rename_i a
            exact ⟨.pointer (some (a.add fd.offset)), by simp [Instr.fieldAt, run_under hu, hfd, Instr.sureAddr, fieldPlace, run_size hn, hn0], .ptr (tr_add ha)⟩
      · cases e
    · cases e
  · cases e

/-- A slice that has an element stands at its address. -/
theorem sl_addr {b off len cap sz : Nat} {ex : Bool} {x' : Value} (hx : VR n0 ρ (.sl b off len cap sz ex) x') (hl : 0 < len) :
    ∃ a cap', tr n0 ρ b off = some a ∧ x' = .slice (some a) len cap' := by
  cases hx with
  | slx h1 h2 h3 =>
    rcases h2 with h2 | h2
    · omega
    · subst h2; exact ⟨_, _, h1, rfl⟩
  | slg h1 h2 hm h3 h4 h5 =>
    rcases h3 with h3 | h3
    · omega
    · rw [h3.1]; exact ⟨_, _, tr_of h1 h2 hm, rfl⟩

theorem sl_form {b off len cap sz : Nat} {ex : Bool} {x' : Value} (hx : VR n0 ρ (.sl b off len cap sz ex) x') :
    ∃ a cap', x' = .slice (some a) len cap' ∧ cap ≤ cap' ∧ (ex = true → cap' = cap) ∧ len ≤ cap := by
  cases hx with
  | slx h1 h2 h3 => exact ⟨_, _, rfl, Nat.le_refl _, fun _ => rfl, h3⟩
  | slg h1 h2 hm h3 h4 h5 => exact ⟨_, _, rfl, h4, fun h => (by cases h), h5⟩

theorem indexAddr_ok {t : TypeId} {x i v : AVal} {x' i' : Value} (e : aIndexAddr P t x i = some v) (hx : VR n0 ρ x x') (hi : VR n0 ρ i i') (w : World) :
    ∃ v', (Instr.indexAt t x' i').run P w = .ok v' w ∧ VR n0 ρ v v' := by
  unfold aIndexAddr at e
  split at e
  · rename_i elem b off len cap sz ex k n hu
    split at e
    · rename_i hn
      split at e
      · rename_i z hz
        cases e; cases hi
        obtain ⟨a, cap', ha, rfl⟩ := sl_addr hx (by omega)
        exact ⟨.pointer (some (a.add (n.toNat * z))), by simp [Instr.indexAt, asIntOf, run_under hu, hn, run_size hz], .ptr (tr_add ha)⟩
      · cases e
    · cases e
  · rename_i len elem b off k n hu
    split at e
    · rename_i hn
      split at e
      · rename_i z hz
        cases e; cases hi
        cases hx with
        | ptr ha =>
          rename_i a
          exact ⟨.pointer (some (a.add (n.toNat * z))), by simp [Instr.indexAt, asIntOf, run_under hu, Instr.sureAddr, hn, run_size hz], .ptr (tr_add ha)⟩
      · cases e
    · cases e
  · cases e

theorem len_ok {t ty : TypeId} {x v : AVal} {x' : Value} (e : aLen P t x = some v) (hx : VR n0 ρ x x') (w : World) :
    ∃ v', (Builtin.len_ #[t] ty #[x']).run P w = .ok v' w ∧ VR n0 ρ v v' := by
  unfold aLen at e
  split at e
  · rename_i s hu; cases e; cases hx; exact ⟨goInt s.size, by simp [Builtin.len_, run_under hu], .int _ _⟩
  · rename_i n el hu; cases e
    refine ⟨goInt n, ?_, .int _ _⟩
    simp only [Builtin.len_, List.getElem?_toArray, List.getElem?_cons_zero, Sem.run_bind, run_under hu, Result.andThen_ok]
    rfl
  · rename_i el b off n cap sz ex hu; cases e
    obtain ⟨a, cap', rfl, _⟩ := sl_form hx
    exact ⟨goInt n, by simp [Builtin.len_, run_under hu], .int _ _⟩
  · rename_i el hu; cases e; cases hx; exact ⟨goInt 0, by simp [Builtin.len_, run_under hu], .int _ _⟩
  · cases e

theorem bound_ok {x : AVal} {x' : Value} {y n : Nat} (c : BoundsCode) (e : aBound x y = some n) (hx : VR n0 ρ x x') (w : World) : (Instr.sliceBound x' y c).run P w = .ok n w ∧ n ≤ y := by
  unfold aBound at e
  split at e
  · rename_i k i
    split at e
    · rename_i hi; cases e; cases hx
      exact ⟨by simp [Instr.sliceBound, asIntOf, hi], by omega⟩
    · cases e
  · cases e

/-- Optional operands, side by side. -/
def VRo (n0 : Nat) (ρ : Ren) : Option AVal → Option Value → Prop
  | none, none => True
  | some v, some v' => VR n0 ρ v v'
  | _, _ => False

theorem slice_ok {t : TypeId} {x v : AVal} {x' : Value} {lo hi mx : Option AVal} {lo' hi' mx' : Option Value} (e : aSlice P t x lo hi mx = some v) (hx : VR n0 ρ x x')
    (hlo : VRo n0 ρ lo lo') (hhi : VRo n0 ρ hi hi') (hmx : VRo n0 ρ mx mx') (w : World) :
    ∃ v', (Instr.sliceAt t x' lo' hi' mx').run P w = .ok v' w ∧ VR n0 ρ v v' := by
  have bo : ∀ {o : Option AVal} {o' : Option Value} {y d n : Nat} (c : BoundsCode), aBoundO o y d = some n → VRo n0 ρ o o' →
      (match o' with | some v => Instr.sliceBound v y c | none => pure d : Sem Nat).run P w = .ok n w ∧ (o = none ∨ n ≤ y) := by
    intro o o' y d n c e ho
    cases o with
    | none => cases o' with
      | none => simp only [aBoundO, Option.some.injEq] at e; subst e; exact ⟨rfl, .inl rfl⟩
      | some _ => exact ho.elim
    | some u => cases o' with
      | none => exact ho.elim
      | some u' => obtain ⟨h1, h2⟩ := bound_ok (P := P) c e ho w; exact ⟨h1, .inr h2⟩
  unfold aSlice at e
  split at e
  · rename_i s hu
    cases hx
    cases mx with
    | some _ => cases e
    | none =>
      cases mx' with
      | some _ => exact hmx.elim
      | none =>
        simp only at e
        split at e
        · rename_i hh e1
          split at e
          · rename_i ll e2
            cases e
            obtain ⟨r1, _⟩ := bo .sliceAlen e1 hhi
            obtain ⟨r2, _⟩ := bo .sliceB e2 hlo
            refine ⟨.string (s.extract ll hh), ?_, .str _⟩
            simp only [Instr.sliceAt, Sem.run_bind, run_under hu, Result.andThen_ok, Instr.slice, Option.isSome_none, Bool.false_eq_true, if_false, Instr.sliceBounds, Sem.run_pure]
            cases hi' <;> cases lo' <;> simp only [Sem.run_bind, Sem.run_pure, Result.andThen_ok] at r1 r2 ⊢ <;> simp_all
          · cases e
        · cases e
  · rename_i elem b off len cap sz ex hu
    split at e
    · rename_i n hn
      obtain ⟨a, cap', rfl, hc1, hc2, hlc⟩ := sl_form hx
      cases mx with
      | none =>
        cases mx' with
        | some _ => exact hmx.elim
        | none =>
          simp only at e
          split at e
          · rename_i hh e1
            split at e
            · rename_i ll e2
              split at e
              · rename_i hex
                cases e
                have hhc : hh ≤ cap := by
                  cases hi with
                  | none => simp only [aBoundO, Option.some.injEq] at e1; omega
                  | some u =>
                    simp only [aBoundO, aBound] at e1
                    split at e1
                    · split at e1
                      · cases e1; omega
                      · cases e1
                    · cases e1
                have e1' : aBoundO hi cap' len = some hh := by
                  cases hi with
                  | none => exact e1
                  | some u =>
                    simp only [aBoundO, aBound] at e1 ⊢
                    split at e1
                    · split at e1
                      · cases e1; rw [if_pos (by omega)]
                      · cases e1
                    · cases e1
                obtain ⟨r1, _⟩ := bo .sliceAcap e1' hhi
                obtain ⟨r2, hll⟩ := bo .sliceB e2 hlo
                have hllh : ll ≤ hh := by
                  rcases hll with k | k
                  · subst k; simp only [aBoundO, Option.some.injEq] at e2; omega
                  · exact k
                refine ⟨.slice (if cap' = ll then some a else some (a.add (ll * n))) (hh - ll) (cap' - ll), ?_, ?_⟩
                · simp only [Instr.sliceAt, Sem.run_bind, run_under hu, Result.andThen_ok, Instr.slice, Instr.sliceBounds, Sem.run_pure]
                  cases hi' <;> cases lo' <;> simp only [Sem.run_bind, Sem.run_pure, Result.andThen_ok] at r1 r2 ⊢ <;> simp_all [run_size hn] <;> split <;> simp_all
                · have hif : (if cap' = ll then some a else some (a.add (ll * n))) = some (if cap' = ll then a else a.add (ll * n)) := by split <;> rfl
                  rw [hif]
                  cases hx with
                  | slx h1 h2 h3 =>
                    refine .slx (tr_add h1) ?_ (by omega)
                    by_cases k : cap = ll
                    · left; omega
                    · right; rw [if_neg k]
                      rcases h2 with h2 | h2
                      · omega
                      · rw [h2]
                  | slg h1 h2 hm h3 h4 h5 =>
                    rcases hex with hex | hex
                    · cases hex
                    · subst hex
                      refine .slg h1 h2 hm ?_ (by omega) (by omega)
                      by_cases k : cap' = ll
                      · left; omega
                      · right; rw [if_neg k]
                        rcases h3 with h3 | h3
                        · omega
                        · refine ⟨by rw [h3.1, addr_add, Nat.add_assoc], ?_⟩
                          rw [← h3.2, Nat.sub_mul]
                          have : ll * sz ≤ cap' * sz := Nat.mul_le_mul_right _ (by omega)
                          omega
              · cases e
            · cases e
          · cases e
      | some m =>
        cases mx' with
        | none => exact hmx.elim
        | some m' =>
          simp only at e
          split at e
          · rename_i m2 hiv em
            split at e
            · rename_i hh e1
              split at e
              · rename_i ll e2
                cases e
                obtain ⟨hm1, hm2⟩ := bound_ok (P := P) (n0 := n0) (ρ := ρ) .slice3Acap em hmx w
                have hm1' : (Instr.sliceBound m' cap' .slice3Acap).run P w = .ok m2 w := by
                  refine (bound_ok (P := P) (n0 := n0) (ρ := ρ) .slice3Acap ?_ hmx w).1
                  simp only [aBound] at em ⊢
                  split at em
                  · split at em
                    · cases em; rw [if_pos (by omega)]
                    · cases em
                  · cases em
                cases hi' with
                | none => exact hhi.elim
                | some hi2 =>
                  obtain ⟨r1, hh2⟩ := bound_ok (P := P) (n0 := n0) (ρ := ρ) .slice3B e1 hhi w
                  obtain ⟨r2, hll⟩ := bo .slice3C e2 hlo
                  have hllh : ll ≤ hh := by
                    rcases hll with k | k
                    · subst k; simp only [aBoundO, Option.some.injEq] at e2; omega
                    · exact k
                  refine ⟨.slice (if m2 = ll then some a else some (a.add (ll * n))) (hh - ll) (m2 - ll), ?_, ?_⟩
                  · simp only [Instr.sliceAt, Sem.run_bind, run_under hu, Result.andThen_ok, Instr.slice, Instr.sliceBounds, Sem.run_pure, if_true]
                    cases lo' <;> simp only [Sem.run_bind, Sem.run_pure, Result.andThen_ok] at r1 r2 ⊢ <;> simp_all [run_size hn] <;> split <;> simp_all
                  · have hif : (if m2 = ll then some a else some (a.add (ll * n))) = some (if m2 = ll then a else a.add (ll * n)) := by split <;> rfl
                    rw [hif]
                    have hadr : tr n0 ρ b off = some a ∨ cap' = 0 := by
                      cases hx with
                      | slx h1 h2 h3 => rcases h2 with h2 | h2
                                        · exact .inr h2
                                        · exact .inl (by rw [h2]; exact h1)
                      | slg h1 h2 hm h3 h4 h5 =>
                        rcases h3 with h3 | h3
                        · exact .inr h3
                        · exact .inl (by rw [h3.1]; exact tr_of h1 h2 hm)
                    have htr : ∃ a0, tr n0 ρ b off = some a0 := by
                      cases hx with
                      | slx h1 h2 h3 => exact ⟨_, h1⟩
                      | slg h1 h2 hm h3 h4 h5 => exact ⟨_, tr_of h1 h2 hm⟩
                    obtain ⟨a0, ha0⟩ := htr
                    refine .slx (tr_add ha0) ?_ (by omega)
                    by_cases k : m2 = ll
                    · left; omega
                    · right; rw [if_neg k]
                      rcases hadr with q | q
                      · rw [ha0] at q; cases q; rfl
                      · omega
              · cases e
            · cases e
          · cases e
    · cases e
  · rename_i el hu
    cases hx
    cases mx with
    | some _ => cases e
    | none =>
      cases mx' with
      | some _ => exact hmx.elim
      | none =>
        simp only at e
        split at e
        · rename_i sz hsz
          split at e
          · rename_i hh e1
            split at e
            · rename_i ll e2
              cases e
              obtain ⟨r1, _⟩ := bo .sliceAcap e1 hhi
              obtain ⟨r2, _⟩ := bo .sliceB e2 hlo
              have z1 : hh = 0 := by
                cases hi with
                | none => simp only [aBoundO, Option.some.injEq] at e1; omega
                | some u =>
                  simp only [aBoundO, aBound] at e1
                  split at e1
                  · split at e1
                    · cases e1; omega
                    · cases e1
                  · cases e1
              have z2 : ll = 0 := by
                cases lo with
                | none => simp only [aBoundO, Option.some.injEq] at e2; omega
                | some u =>
                  simp only [aBoundO, aBound] at e2
                  split at e2
                  · split at e2
                    · cases e2; omega
                    · cases e2
                  · cases e2
              subst z1; subst z2
              refine ⟨.slice none 0 0, ?_, .nils⟩
              simp only [Instr.sliceAt, Sem.run_bind, run_under hu, Result.andThen_ok, Instr.slice, Instr.sliceBounds, Sem.run_pure]
              cases hi' <;> cases lo' <;> simp only [Sem.run_bind, Sem.run_pure, Result.andThen_ok] at r1 r2 ⊢ <;> simp_all [run_size hsz]
            · cases e
          · cases e
        · cases e
  · cases e

end
end Go.Ab
