/-
  trap.Stop, and the functions that TrapCounts hands in; trap.Each of them.
-/
import Derived.Test.YtepdlgcoehpnbaaRun0
import Derived.Test.YtepdlgcoehpnbaaHandP
set_option linter.unusedVariables false
set_option linter.unusedSimpArgs false
namespace Go.Proofs.Ytepdlgcoehpnbaa
open Go.Ab

section
variable {X : XTab}

/-- trap.Stop. -/
theorem stop_tells (hX : OnlyKnown X) (e : Int) (h : Heap) : TellsV (fun v h' => v = .iface 22 (I e) ∧ e ≠ 0 ∧ h' = h) (fun m => acallX Try.prog X m F_trap_Stop [I e] h) fun _ h' => e = 0 ∧ h' = h := by
  refine RV_trap_Stop _ (hX _ _ rfl) ?_
  refine TV.prot fun V' Q' hV hQ => ?_
  unfold S_trap_Stop
  simp
  by_cases k : e = 0
  · subst k
    simp
    exact TV.ok (hQ _ _ ⟨rfl, rfl⟩)
  · have : (e != 0) = true := by simp [k]
    simp only [this, cbT, pncR]
    exact TV.pan (hV _ _ ⟨rfl, k, rfl⟩)

/-- The functions of TrapCounts, by the blocks of their numbers. -/
def fnR (C : Nat) : Rp Nat := ⟨1, by decide, fun _ c kb => c = [.fn 31 [] [.ptr C 0, .ptr kb 0]], fun h => by rw [h]; rfl, fun h => by rw [h]; rfl, fun h _ => h⟩

theorem count_tells (hX : OnlyKnown X) {h : Heap} {C kb : Nat} {c k : Int} (oC : Ob h C [I c]) (ok : Ob h kb [I k]) (hne : kb ≠ C) (hc : 0 ≤ c) (hc2 : c < 1000) (hk : -100 ≤ k) (hk2 : k ≤ 100) :
    TellsV (fun v h' => Ext [C] h h' ∧ v = .iface 22 (I k) ∧ 0 < k ∧ Ob h' C [I (c + 1)]) (fun m => acallX Try.prog X m 31 [.ptr C 0, .ptr kb 0] h) fun _ h' => Ext [C] h h' ∧ k ≤ 0 ∧ Ob h' C [I (c + 1)] := by
  refine RV_precentorlaw1_TrapCounts_1 _ _ (hX _ _ rfl) ?_
  refine TV.prot fun V' Q' hV hQ => ?_
  unfold S_precentorlaw1_TrapCounts_1
  have hw : IntKind.i64.wrap (c + 1) = c + 1 := wrap_id (by omega) (by omega)
  simp [Heap.cell, oC.1, hw]
  refine TV.st1 oC rfl rfl (by simp) fun h' o' x => ?_
  have ok' := ok.ext x (by simpa using hne)
  simp [Heap.cell, ok'.1]
  refine TV.bind (stop_tells hX _ _) ?_ ?_
  · rintro v h2 ⟨rfl, q, rfl⟩
    by_cases hp : 0 < k
    · have : (if k > 0 then k else 0) = k := if_pos hp
      simp only [this]
      exact hV _ _ ⟨x, rfl, hp, by simpa using o'⟩
    · exact absurd (if_neg hp) q
  · rintro v h2 ⟨q, rfl⟩
    try simp
    refine TV.ok (hQ _ _ ⟨x, ?_, by simpa using o'⟩)
    by_cases hp : 0 < k
    · have : (if k > 0 then k else 0) = k := if_pos hp
      omega
    · omega

/-- trap.Run of one. -/
theorem runc_tells (hX : OnlyKnown X) {h : Heap} {C kb : Nat} {c k : Int} (oC : Ob h C [I c]) (ok : Ob h kb [I k]) (hne : kb ≠ C) (hc : 0 ≤ c) (hc2 : c < 1000) (hk : -100 ≤ k) (hk2 : k ≤ 100) :
    Tells (fun m => acallX Try.prog X m F_trap_Run [.fn 31 [] [.ptr C 0, .ptr kb 0]] h) fun r h' => r = I (if 0 < k then k else 0) ∧ Ext [C] h h' ∧ Ob h' C [I (c + 1)] := by
  have key := run_tells hX (g := 31) (a := []) (b := [.ptr C 0, .ptr kb 0]) (by kernel_rfl) (h := h) (S := [C]) (by intro x hx; rw [List.mem_singleton.1 hx]; exact oC.lt)
    (V := fun v h2 => v = .iface 22 (I k) ∧ 0 < k ∧ Ob h2 C [I (c + 1)]) (Q := fun h2 => k ≤ 0 ∧ Ob h2 C [I (c + 1)])
    (fun h1 x1 n1 => count_tells hX (oC.e x1) (ok.e x1) hne hc hc2 hk hk2) (fun v h2 q => .inl ⟨k, q.1⟩)
  refine TV.no (TV.mono key ?_ fun v h3 q => q.1 k q.2.1.1)
  rintro r h3 ⟨x, h2, x2, q⟩
  have hC : C ≠ h.next := Nat.ne_of_lt oC.lt
  rcases q with ⟨rfl, hk0, o2⟩ | ⟨e, rfl, he, hk0, o2⟩
  · exact ⟨by rw [if_neg (by omega)], x, o2.ext x2 (by simpa using hC)⟩
  · have : e = k := by injection he with _ he; injection he
    subst this
    exact ⟨by rw [if_pos hk0], x, o2.ext x2 (by simpa using hC)⟩

theorem fn_at {h : Heap} {C : Nat} {v : AVal} {l : List Nat} {kb i : Nat} (o : Sl (fnR C) h v l) (hd : l[i]? = some kb) : ∃ b p B, ixsR 1 v (.int .i64 (i : Int)) = some (.ptr b p) ∧ h.get b = some B ∧ B[p]? = some (.fn 31 [] [.ptr C 0, .ptr kb 0]) := by
  obtain ⟨b, p, B, c, q1, q2, q3⟩ := o.at (n := 1) rfl (i := (i : Int)) (by omega) (by simpa using hd)
  obtain rfl : c = [.fn 31 [] [.ptr C 0, .ptr kb 0]] := q3
  exact ⟨b, p, B, q1, q2.get, q2.cell0 (by simp)⟩

/-- How many go well ahead of the first that does not; and its error. -/
def good (ks : List Int) : Nat := (ks.takeWhile fun k => decide (k ≤ 0)).length

/-- trap.Each of them. -/
theorem each_tells (hX : OnlyKnown X) {h : Heap} {C : Nat} {v : AVal} {kbs : List Nat} {ks : List Int} (oC : Ob h C [I 0]) (o : Sl (fnR C) h v kbs) (hl : kbs.length = ks.length) (hs : ks.length ≤ 500)
    (ok : ∀ (i : Nat) (kb : Nat) (k : Int), kbs[i]? = some kb → ks[i]? = some k → Ob h kb [I k] ∧ kb ≠ C ∧ -100 ≤ k ∧ k ≤ 100) :
    Tells (fun m => acallX Try.prog X m F_trap_Each [v] h) fun r h' => ∃ (n e : Int), r = .tup [I n, I e] ∧ Ext [C] h h' ∧
      ((n = ks.length ∧ e = 0 ∧ (∀ (j : Nat) (k : Int), ks[j]? = some k → k ≤ 0) ∧ Ob h' C [I ks.length]) ∨ ∃ i : Nat, n = i ∧ ks[i]? = some e ∧ 0 < e ∧ (∀ (j : Nat) (k : Int), j < i → ks[j]? = some k → k ≤ 0) ∧ Ob h' C [I (i + 1)]) := by
  refine R_trap_Each _ (hX _ _ rfl) ?_
  refine Tells.prot fun Q' hQ => ?_
  unfold S_trap_Each
  simp [o.len]
  refine Tells.bind (Tells.loop (fun n t g => ∃ i : Nat, t 0 = v ∧ t 7 = v ∧ t 8 = I kbs.length ∧ t 9 = I i ∧ i + n = kbs.length ∧ Ext [C] h g ∧ Ob g C [I i] ∧ ∀ (j : Nat) (k : Int), j < i → ks[j]? = some k → k ≤ 0)
    (Q := fun p g => Ext [C] h g ∧ ((p.1 = .exit 0 ∧ p.2 0 = v ∧ (∀ (j : Nat) (k : Int), ks[j]? = some k → k ≤ 0) ∧ Ob g C [I ks.length]) ∨
      (p.1 = .ret ∧ ∃ (i : Nat) (e : Int), p.2 2 = I i ∧ p.2 3 = I e ∧ ks[i]? = some e ∧ 0 < e ∧ (∀ (j : Nat) (k : Int), j < i → ks[j]? = some k → k ≤ 0) ∧ Ob g C [I (i + 1)]))) ?_ kbs.length _ _ ?_) ?_
  · rintro n t g ⟨i, t0, t7, t8, t9, hi, xg, og, hj⟩
    refine Tells.prot fun Q2 hQ2 => ?_
    unfold L_trap_Each_1
    simp [t0, t7, t8, t9]
    refine Tells.cb (fun hc => ?_) fun hc => ?_
    · have hlt : i < kbs.length := by simpa using hc
      obtain ⟨kb, hkb⟩ : ∃ kb, kbs[i]? = some kb := ⟨kbs[i], by simp [hlt]⟩
      obtain ⟨k, hk⟩ : ∃ k, ks[i]? = some k := ⟨ks[i]'(by omega), by simp [show i < ks.length by omega]⟩
      obtain ⟨ob, hne, hk1, hk2⟩ := ok i kb k hkb hk
      obtain ⟨b, p, B, q1, q2, q3⟩ := fn_at (o.ext xg) hkb
      unfold J_trap_Each_2
      simp [t0, t7, t8, t9, q1, Heap.cell, q2, q3]
      refine Tells.bind (runc_tells hX og (ob.ext xg (by simpa using hne)) hne (by omega) (by omega) hk1 hk2) ?_
      rintro a g2 ⟨rfl, x2, o2⟩
      have xg2 : Ext [C] h g2 := xg.trans x2
      by_cases hp : 0 < k
      · have : (k != 0) = true := by simp; omega
        simp [hp, this]
        refine Tells.ok (hQ2 _ _ (.inr ⟨by simp, xg2, .inr ⟨rfl, i, k, by simp, by simp, hk, hp, hj, o2⟩⟩))
      · simp [hp, J_trap_Each_3, t9]
        have hw : IntKind.i64.wrap ((i : Int) + 1) = ((i + 1 : Nat) : Int) := by rw [wrap_id (by omega) (by omega)]; omega
        refine Tells.ok (hQ2 _ _ (.inl ⟨rfl, n - 1, by omega, i + 1, by simp [t0], by simp [t7], by simp [t8], by simp [hw], by omega, xg2, o2, fun j k' hj' hk' => ?_⟩))
        rcases Nat.lt_or_ge j i with q | q
        · exact hj j k' q hk'
        · obtain rfl : j = i := by omega
          rw [hk] at hk'
          cases hk'
          omega
    · have hge : kbs.length ≤ i := by simpa using hc
      try simp
      refine Tells.ok (hQ2 _ _ (.inr ⟨by simp, xg, .inl ⟨rfl, by simp [t0], fun j k hk => hj j k ?_ hk, ?_⟩⟩))
      · have := (List.getElem?_eq_some_iff.1 hk).1
        omega
      · obtain rfl : i = ks.length := by omega
        exact og
  · exact ⟨0, by simp, by simp, by simp, by simp, by omega, .refl, oC, fun j k hj => by omega⟩
  · rintro ⟨ex, t⟩ g ⟨xg, q⟩
    rcases q with ⟨rfl, t0, hj, og⟩ | ⟨rfl, i, e, t2, t3, hi, he, hj, og⟩
    · simp only at t0
      simp [J_trap_Each_0, t0, (o.ext xg).len]
      exact Tells.ok (hQ _ _ ⟨_, _, rfl, xg, .inl ⟨by rw [hl], rfl, hj, og⟩⟩)
    · simp only at t2 t3
      simp [t2, t3]
      exact Tells.ok (hQ _ _ ⟨_, _, rfl, xg, .inr ⟨i, rfl, hi, he, hj, og⟩⟩)
end
end Go.Proofs.Ytepdlgcoehpnbaa
