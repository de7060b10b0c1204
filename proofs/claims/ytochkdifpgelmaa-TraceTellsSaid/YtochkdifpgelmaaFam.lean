/-
  Reckoning in the S-forms: rows that lie in a row, each of a class of its own.
-/
import Derived.Test.YtochkdifpgelmaaCls
import Derived.Test.YtochkdifpgelmaaCell0
set_option linter.unusedVariables false
set_option linter.unusedSimpArgs false
namespace Go.Ab

/-- Where the class of a row that append told began. -/
theorem appR_root {h h' : Heap} {n by_ : Nat} {s x s' : AVal} (e : appR n by_ h s x = .val s' h') : ∀ b, b ∈ s'.blks → (∃ c, c ∈ s.blks ∧ h'.root b = h.root c) ∨ h'.root b = h.next := by
  have rootG : ∀ cs, (h.newG cs).root h.next = h.next := fun cs => by
    unfold Heap.root; rw [Heap.cls_newG, if_pos rfl]
  unfold appR at e
  split at e
  · rename_i m new hs
    split at e
    · split at e
      · cases e; exact fun b hb => by simp [AVal.blks] at hb
      · split at e
        · cases e; exact fun b hb => by simp [AVal.blks] at hb; subst hb; exact .inr (rootG _)
        · cases e
    · rename_i b off len cap sz ex
      split at e
      · split at e
        · split at e
          · cases e; exact fun c hc => .inl ⟨c, hc, rfl⟩
          · split at e
            · split at e
              · split at e
                · rename_i h2 hp
                  cases e
                  obtain ⟨_, _, cs, _, _, rfl⟩ := Heap.put_eq hp
                  intro b' hb'
                  refine .inl ⟨b', hb', ?_⟩
                  unfold Heap.root
                  rw [Heap.cls_putB]
                · cases e
              · cases e
            · cases e
        · split at e
          · split at e
            · cases e; exact fun b hb => by simp [AVal.blks] at hb; subst hb; exact .inr (rootG _)
            · split at e
              · rename_i r hr
                split at e
                · cases e
                  intro b' hb'
                  simp [AVal.blks] at hb'
                  subst hb'
                  refine .inl ⟨b, by simp [AVal.blks], ?_⟩
                  unfold Heap.root
                  rw [Heap.cls_app h _ hr, if_pos rfl, hr]
                · cases e
              · cases e
          · cases e
      · cases e
    · cases e
  · cases e

def cell1 : Rp (List AVal) := cellR 1 (by decide)

section
variable {α : Type} {r : Rp α} {h0 g g' : Heap} {out : AVal} {vs : List AVal} {R : List (List α)} {S : List Nat}

/-- The rows within. -/
structure FamI (r : Rp α) (h0 g : Heap) (out : AVal) (vs : List AVal) (R : List (List α)) : Prop where
  in_ : All2 (fun v xs => Gl r h0 g v xs ∧ Wr h0 g v) vs R
  d1 : ∀ (i j : Nat) (v w : AVal), i ≠ j → vs[i]? = some v → vs[j]? = some w → ∀ b, b ∈ v.blks → ∀ c, c ∈ w.blks → g.root b ≠ g.root c
  d2 : ∀ (i : Nat) (v : AVal), vs[i]? = some v → ∀ b, b ∈ v.blks → ∀ c, c ∈ out.blks → g.root b ≠ g.root c
structure Fam (r : Rp α) (h0 g : Heap) (out : AVal) (vs : List AVal) (R : List (List α)) : Prop where
  sl : Gl cell1 h0 g out (vs.map fun v => [v])
  wr : Wr h0 g out
  fi : FamI r h0 g out vs R

theorem Fam.nil : Fam r h0 g .nils [] [] := ⟨Gl.nil, fun b hb => by simp [AVal.blks] at hb, ⟨trivial, fun i j v w _ h => by simp at h, fun i v h => by simp at h⟩⟩
theorem FamI.len (f : FamI r h0 g out vs R) : vs.length = R.length := f.in_.len
theorem FamI.lt (f : FamI r h0 g out vs R) {i : Nat} {v : AVal} (hv : vs[i]? = some v) : ∀ b, b ∈ v.blks → b < g.next := fun b hb => by
  obtain ⟨xs, _, k⟩ := f.in_.at' hv
  exact (k.2 b hb).2.2
theorem FamI.ext (f : FamI r h0 g out vs R) (e : Ext S g g') (hs : ∀ b, b ∈ S → g.isM b = true ∨ g.next ≤ b) (ho : ∀ b, b ∈ out.blks → b < g.next) : FamI r h0 g' out vs R where
  in_ := f.in_.imp fun v xs k => ⟨k.1.extO e hs, k.2.ext e⟩
  d1 := fun i j v w hij hv hw b hb c hc => by rw [root_ext e (f.lt hv b hb), root_ext e (f.lt hw c hc)]; exact f.d1 i j v w hij hv hw b hb c hc
  d2 := fun i v hv b hb c hc => by rw [root_ext e (f.lt hv b hb), root_ext e (ho c hc)]; exact f.d2 i v hv b hb c hc
theorem Fam.ext (f : Fam r h0 g out vs R) (e : Ext S g g') (hs : ∀ b, b ∈ S → g.isM b = true ∨ g.next ≤ b) : Fam r h0 g' out vs R :=
  ⟨f.sl.extO e hs, f.wr.ext e, f.fi.ext e hs fun b hb => (f.wr b hb).2.2⟩
theorem Fam.e (f : Fam r h0 g out vs R) (e : Ext [] g g') : Fam r h0 g' out vs R := f.ext e (by simp)
/-- .. whatever is changed elsewhere. -/
theorem Fam.extD (f : Fam r h0 g out vs R) (e : Ext S g g') (ho : ∀ b, b ∈ out.blks → b ∉ S) (hi : ∀ v, v ∈ vs → ∀ b, b ∈ v.blks → b ∉ S) : Fam r h0 g' out vs R := by
  refine ⟨f.sl.ext e ho, f.wr.ext e, ?_, fun i j v w hij hv hw b hb c hc => by rw [root_ext e (f.fi.lt hv b hb), root_ext e (f.fi.lt hw c hc)]; exact f.fi.d1 i j v w hij hv hw b hb c hc, fun i v hv b hb c hc => by rw [root_ext e (f.fi.lt hv b hb), root_ext e ((f.wr c hc).2.2)]; exact f.fi.d2 i v hv b hb c hc⟩
  have : ∀ (us : List AVal) (Rs : List (List α)), (∀ u, u ∈ us → u ∈ vs) → All2 (fun v xs => Gl r h0 g v xs ∧ Wr h0 g v) us Rs → All2 (fun v xs => Gl r h0 g' v xs ∧ Wr h0 g' v) us Rs := by
    intro us
    induction us with
    | nil => intro Rs _ h; cases Rs <;> exact h
    | cons u us ih =>
      intro Rs hu h
      cases Rs with
      | nil => exact h.elim
      | cons xs Rs => exact ⟨⟨h.1.1.ext e (hi u (hu u (by simp))), h.1.2.ext e⟩, ih Rs (fun u k => hu u (by simp [k])) h.2⟩
  exact this vs R (fun _ k => k) f.fi.in_
/-- The rows within, read. -/
def rowR (r : Rp α) : Rp (List α) := ⟨1, by decide, fun h cs xs => ∃ v, cs = [v] ∧ Sl r h v xs, fun ⟨v, h, _⟩ => by rw [h]; rfl, fun ⟨v, h, k⟩ => by rw [h]; simp [k.one], fun ⟨v, h, k⟩ e => ⟨v, h, k.ext e⟩⟩
theorem All2.map_l {β γ δ : Type} {P : γ → δ → Prop} (f : β → γ) : ∀ {l : List β} {m : List δ}, All2 (fun a b => P (f a) b) l m → All2 P (l.map f) m
  | [], [], _ => trivial
  | _ :: _, _ :: _, h => ⟨h.1, All2.map_l f h.2⟩
  | [], _ :: _, h => h.elim
  | _ :: _, [], h => h.elim
theorem all2_cells : ∀ {css : List (List AVal)} {xs : List (List AVal)}, All2 (cell1.rep g) css xs → css = xs
  | [], [], _ => rfl
  | _ :: _, _ :: _, h => by rw [h.1.1, all2_cells h.2]
  | [], _ :: _, h => h.elim
  | _ :: _, [], h => h.elim
theorem Fam.rd (f : Fam r h0 g out vs R) : Sl (rowR r) g out R := by
  obtain ⟨css, s, a⟩ := f.sl.1
  have := all2_cells a
  subst this
  exact ⟨_, s, All2.map_l (P := (rowR r).rep g) (fun v => [v]) (f.fi.in_.imp fun v xs k => ⟨v, rfl, k.1.1⟩)⟩
/-- Row k within. -/
theorem Fam.at (f : Fam r h0 g out vs R) {k : Nat} {xs : List α} (hk : R[k]? = some xs) : ∃ v b p B, vs[k]? = some v ∧ ixsR 1 out (.int .i64 (k : Int)) = some (.ptr b p) ∧ g.get b = some B ∧ B[p]? = some v ∧ Gl r h0 g v xs ∧ Wr h0 g v := by
  obtain ⟨v, hv, gv, wv⟩ := f.fi.in_.at hk
  obtain ⟨b, p, B, c, q1, q2, q3⟩ := f.sl.1.at (n := 1) rfl (i := (k : Int)) (by omega) (x := [v]) (by simp [hv])
  have := q3.1
  subst this
  exact ⟨v, b, p, B, hv, q1, q2.get, q2.cell0 (by simp), gv, wv⟩

/-- Row k within is another one. -/
theorem FamI.poke {k : Nat} {v v' : AVal} {xs' : List α} (flat : ∀ {h h' cs x}, r.rep h cs x → r.rep h' cs x) (s : Gl cell1 h0 g out (vs.map fun v => [v])) (w : Wr h0 g out) (hv : vs[k]? = some v) (hc : v'.cells = [v']) (h1 : v'.one = true) (f : FamI r h0 g out (vs.set k v') (R.set k xs')) :
    ∃ b p B g', out.blks = [b] ∧ g.isM b = false ∧ h0.next ≤ g.root b ∧ ixsR 1 out (.int .i64 (k : Int)) = some (.ptr b p) ∧ g.get b = some B ∧ B[p]? = some v ∧ stR 1 g (.ptr b p) v' = .val aUndef g' ∧ ExtC b g g' ∧ Fam r h0 g' out (vs.set k v') (R.set k xs') := by
  obtain ⟨b, p, B, c, p1, p2, p3, p4, p5, p6, p7⟩ := pokeC (r := cell1) (n := 1) rfl (fun h => h) s.1 (fun b hb => (w b hb).2.1) (i := k) (y := [v]) (by simp [hv])
  have := p6.1
  subst this
  obtain ⟨g', q1, q2, q3, q4⟩ := p7 0 v' [v'] (by decide) hc h1 ⟨by simp, rfl, by simp [h1]⟩
  refine ⟨b, p, B, g', p1, p2, (w b (by rw [p1]; simp)).1, p4, p5.get, p5.cell0 (by simp), by simpa using q1, q2, ⟨⟨by simpa [List.map_set] using q3, q4 h0 s.2⟩, fun c hc' => ?_, ?_⟩⟩
  · obtain ⟨w1, w2, w3⟩ := w c hc'
    refine ⟨?_, by rw [q2.n0]; exact w2, by rw [q2.next]; exact w3⟩
    unfold Heap.root
    rw [q2.cls]
    exact w1
  · have rt : ∀ c, g'.root c = g.root c := fun c => by unfold Heap.root; rw [q2.cls]
    refine ⟨?_, fun i j v w hij hv hw b hb c hc => by rw [rt, rt]; exact f.d1 i j v w hij hv hw b hb c hc, fun i v hv b hb c hc => by rw [rt, rt]; exact f.d2 i v hv b hb c hc⟩
    have key : ∀ (us : List AVal) (Rs : List (List α)), (∀ u, u ∈ us → Apart g b u) → All2 (fun v xs => Gl r h0 g v xs ∧ Wr h0 g v) us Rs → All2 (fun v xs => Gl r h0 g' v xs ∧ Wr h0 g' v) us Rs := by
      intro us
      induction us with
      | nil => intro Rs _ h; cases Rs <;> exact h
      | cons u us ih =>
        intro Rs ap h
        cases Rs with
        | nil => exact h.elim
        | cons xs Rs =>
          refine ⟨⟨h.1.1.extC flat q2 (ap u (by simp)), fun c hc' => ?_⟩, ih Rs (fun u hu => ap u (by simp [hu])) h.2⟩
          obtain ⟨w1, w2, w3⟩ := h.1.2 c hc'
          exact ⟨by rw [rt]; exact w1, by rw [q2.n0]; exact w2, by rw [q2.next]; exact w3⟩
    refine key _ _ (fun u hu => ?_) f.in_
    obtain ⟨i, hi⟩ := List.mem_iff_getElem?.1 hu
    exact Apart.of fun c hc => f.d2 i u hi c hc b (by rw [p1]; simp)
end

section
variable {β : Type} {Q : β → Heap → Prop} {call : Nat → FuncId → List AVal → Heap → Res AVal} {α : Type} {r : Rp α} {h0 g : Heap} {out : AVal} {vs : List AVal} {R : List (List α)}

/-- append(out, nil) -/
theorem Tells.famNil {by_ : Nat} {k : Nat → AVal → AVal → Heap → Res β} (f : Fam r h0 g out vs R) (hl : R.length < 2 ^ 33) (hby : by_ ≤ 2 ^ 12) (hle : h0.next ≤ g.next)
    (q : ∀ out' g', Fam r h0 g' out' (vs ++ [.nils]) (R ++ [[]]) → (∀ S, Ext S h0 g → Ext S h0 g') → Ext out.blks g g' → Tells (fun m => k m (.sl g.next 0 1 1 1 true) out' g') Q) :
    Tells (fun m => arb (bslR 1 [.nils] 1 g [(0, 1, .nils)]) (call m) fun a h2 => arb (appR 1 by_ h2 out a) (call m) (k m a)) Q := by
  obtain ⟨s', h', q1, q2, q3, q4, q5⟩ := f.sl.app1 (r := cell1) (by_ := by_) (x := [.nils]) (c := [.nils]) (n := 1) ⟨rfl, rfl, rfl⟩ rfl (by rw [List.length_map, f.fi.len]; exact hl) hby hle
  have e1 := Ext.new g false [.nils]
  have w' := appR_wr q1 (f.wr.ext e1) (Nat.le_trans hle e1.next)
  have rt := appR_root q1
  have blt : ∀ b, b ∈ out.blks → b < g.next := fun b hb => (f.wr b hb).2.2
  simp only [bsl1 (n := 1) (z := [.nils]) (x := .nils) (h := g) rfl rfl rfl, cells_nils, arb_val, q1]
  refine q s' h' ⟨by simpa using q2, w', ?_⟩ q4 q3
  have key : ∀ {i : Nat} {v : AVal}, (vs ++ [.nils])[i]? = some v → (∃ b, b ∈ v.blks) → vs[i]? = some v := fun {i v} hv ⟨b, hb⟩ => by
    rw [List.getElem?_append] at hv
    split at hv
    · exact hv
    · cases hi : i - vs.length with
      | zero => rw [hi] at hv; simp at hv; subst hv; simp [AVal.blks] at hb
      | succ n => rw [hi] at hv; simp at hv
  refine ⟨All2.app ?_ ⟨⟨Gl.nil, fun b hb => by simp [AVal.blks] at hb⟩, trivial⟩, fun i j v w hij hv hw b hb c hc => ?_, fun i v hv b hb c hc => ?_⟩
  · have : ∀ (us : List AVal) (Rs : List (List α)), (∀ u, u ∈ us → u ∈ vs) → All2 (fun v xs => Gl r h0 g v xs ∧ Wr h0 g v) us Rs → All2 (fun v xs => Gl r h0 h' v xs ∧ Wr h0 h' v) us Rs := by
      intro us
      induction us with
      | nil => intro Rs _ h; cases Rs <;> exact h
      | cons u us ih =>
        intro Rs hu h
        cases Rs with
        | nil => exact h.elim
        | cons xs Rs =>
          refine ⟨⟨h.1.1.ext q3 fun b hb hbo => ?_, h.1.2.ext q3⟩, ih Rs (fun u k => hu u (by simp [k])) h.2⟩
          obtain ⟨i, hi⟩ := List.mem_iff_getElem?.1 (hu u (by simp))
          exact f.fi.d2 i u hi b hb b hbo rfl
    exact this vs R (fun _ k => k) f.fi.in_
  · have hv' := key hv ⟨b, hb⟩
    have hw' := key hw ⟨c, hc⟩
    rw [root_ext q3 (f.fi.lt hv' b hb), root_ext q3 (f.fi.lt hw' c hc)]
    exact f.fi.d1 i j v w hij hv' hw' b hb c hc
  · have hv' := key hv ⟨b, hb⟩
    rw [root_ext q3 (f.fi.lt hv' b hb)]
    have hb2 := f.fi.lt hv' b hb
    rcases rt c hc with ⟨d, hd, z⟩ | z
    · rw [z, root_ext e1 (blt d hd)]
      exact f.fi.d2 i v hv' b hb d hd
    · rw [z]
      have := root_le g b
      have := e1.next
      omega

/-- out[k] = append(out[k], x) -/
theorem Fam.app {n by_ k : Nat} {v : AVal} {xs : List α} {c : List AVal} {x : α} (flat : ∀ {h h' cs x}, r.rep h cs x → r.rep h' cs x) (f : Fam r h0 g out vs R) (hk : R[k]? = some xs) (hv : vs[k]? = some v) (hx : r.rep g c x) (hn : r.n = n) (hl : xs.length < 2 ^ 33) (hby : by_ ≤ 2 ^ 12) (hle : h0.next ≤ g.next) :
    ∃ v' g' b p g2, appR n by_ (g.new false c) v (.sl g.next 0 1 1 n true) = .val v' g' ∧ ixsR 1 out (.int .i64 (k : Int)) = some (.ptr b p) ∧ stR 1 g' (.ptr b p) v' = .val aUndef g2 ∧ Fam r h0 g2 out (vs.set k v') (R.set k (xs ++ [x])) ∧
      (∀ S, Ext S h0 g → Ext S h0 g2) ∧ ∀ d cs, Ob g d cs → Ob g2 d cs := by
  obtain ⟨xs', hk', gv, wv⟩ := f.fi.in_.at' hv
  rw [hk] at hk'; cases hk'
  obtain ⟨v', g', q1, q2, q3, q4, q5⟩ := gv.app1 (by_ := by_) hx hn hl hby hle
  have e1 := Ext.new g false c
  have w' := appR_wr q1 (wv.ext e1) (Nat.le_trans hle e1.next)
  have rt := appR_root q1
  have blt : ∀ b, b ∈ out.blks → b < g.next := fun b hb => (f.wr b hb).2.2
  have hklt : k < vs.length := (List.getElem?_eq_some_iff.1 hv).1
  have ho : ∀ b, b ∈ out.blks → b ∉ v.blks := fun b hb hbv => f.fi.d2 k v hv b hbv b hb rfl
  -- where the new row's class is
  have rn : ∀ b, b ∈ v'.blks → ∀ d, d < g.next → (∀ e, e ∈ v.blks → g.root e ≠ g.root d) → g'.root b ≠ g.root d := fun b hb d hd hne => by
    rcases rt b hb with ⟨e, he, z⟩ | z
    · rw [z, root_ext e1 (f.fi.lt hv e he)]
      exact hne e he
    · rw [z]
      have := root_le g d
      have := e1.next
      omega
  have fi' : FamI r h0 g' out (vs.set k v') (R.set k (xs ++ [x])) := by
    refine ⟨?_, fun i j u w hij hu hw b hb d hd => ?_, fun i u hu b hb d hd => ?_⟩
    · have : ∀ (us : List AVal) (Rs : List (List α)) (o : Nat), (∀ i u, us[i]? = some u → vs[o + i]? = some u) → All2 (fun v xs => Gl r h0 g v xs ∧ Wr h0 g v) us Rs → ∀ m, o + m = k → All2 (fun v xs => Gl r h0 g' v xs ∧ Wr h0 g' v) (us.set m v') (Rs.set m (xs ++ [x])) := by
        have oth : ∀ (i : Nat) (u : AVal) (ys : List α), vs[i]? = some u → i ≠ k → Gl r h0 g u ys ∧ Wr h0 g u → Gl r h0 g' u ys ∧ Wr h0 g' u := fun i u ys hu hne h =>
          ⟨h.1.ext q3 fun b hb hbv => f.fi.d1 i k u v hne hu hv b hb b hbv rfl, h.2.ext q3⟩
        have rest : ∀ (us : List AVal) (Rs : List (List α)) (o : Nat), (∀ i u, us[i]? = some u → vs[o + i]? = some u) → k < o → All2 (fun v xs => Gl r h0 g v xs ∧ Wr h0 g v) us Rs → All2 (fun v xs => Gl r h0 g' v xs ∧ Wr h0 g' v) us Rs := by
          intro us
          induction us with
          | nil => intro Rs o _ _ h; cases Rs <;> exact h
          | cons u us ih =>
            intro Rs o hu hko h
            cases Rs with
            | nil => exact h.elim
            | cons ys Rs => exact ⟨oth o u ys (by simpa using hu 0 u rfl) (by omega) h.1, ih Rs (o + 1) (fun i w hw => by have := hu (i + 1) w (by simpa using hw); rw [← this]; congr 1; omega) (by omega) h.2⟩
        intro us
        induction us with
        | nil =>
          intro Rs o _ h m _
          cases Rs with
          | nil => simp [All2]
          | cons => exact h.elim
        | cons u us ih =>
          intro Rs o hu h m hm
          cases Rs with
          | nil => exact h.elim
          | cons ys Rs =>
            have sh : ∀ i w, us[i]? = some w → vs[o + 1 + i]? = some w := fun i w hw => by have := hu (i + 1) w (by simpa using hw); rw [← this]; congr 1; omega
            cases m with
            | zero => exact ⟨⟨q2, w'⟩, rest us Rs (o + 1) sh (by omega) h.2⟩
            | succ m => exact ⟨oth o u ys (by simpa using hu 0 u rfl) (by omega) h.1, ih Rs (o + 1) sh h.2 m (by omega)⟩
      exact this vs R 0 (fun i u hu => by simpa using hu) f.fi.in_ k (by omega)
    · rw [List.getElem?_set] at hu hw
      by_cases hi : k = i
      · subst hi
        rw [if_pos rfl, if_pos hklt] at hu
        cases hu
        rw [if_neg hij] at hw
        rw [root_ext q3 (f.fi.lt hw d hd)]
        exact rn b hb d (f.fi.lt hw d hd) fun e he => f.fi.d1 k j v w hij hv hw e he d hd
      · rw [if_neg hi] at hu
        rw [root_ext q3 (f.fi.lt hu b hb)]
        by_cases hj : k = j
        · subst hj
          rw [if_pos rfl, if_pos hklt] at hw
          cases hw
          exact fun q => rn d hd b (f.fi.lt hu b hb) (fun e he => f.fi.d1 k i v u hi hv hu e he b hb) q.symm
        · rw [if_neg hj] at hw
          rw [root_ext q3 (f.fi.lt hw d hd)]
          exact f.fi.d1 i j u w hij hu hw b hb d hd
    · rw [root_ext q3 (blt d hd)]
      rw [List.getElem?_set] at hu
      by_cases hi : k = i
      · subst hi
        rw [if_pos rfl, if_pos hklt] at hu
        cases hu
        exact rn b hb d (blt d hd) fun e he => f.fi.d2 k v hv e he d hd
      · rw [if_neg hi] at hu
        rw [root_ext q3 (f.fi.lt hu b hb)]
        exact f.fi.d2 i u hu b hb d hd
  have so := f.sl.ext q3 ho
  have wo := f.wr.ext q3
  obtain ⟨b, p, B, g2, p1, p2, p3, p4, p5, p6, p7, p8, p9⟩ := fi'.poke flat so wo hv q2.1.cells q2.1.one
  refine ⟨v', g', b, p, g2, q1, p4, p7, p9, fun S e => (q4 S e).extC p8 p3, fun d cs o => ?_⟩
  exact (o.ext q3 (gv.1.ob o)).extC p8 p2

/-- out[k] = out[k][1:], or another part of it. -/
theorem Fam.cut {k : Nat} {v v' : AVal} {xs' : List α} (flat : ∀ {h h' cs x}, r.rep h cs x → r.rep h' cs x) (f : Fam r h0 g out vs R) (hv : vs[k]? = some v) (hg : Gl r h0 g v' xs') (hb : v'.blks = v.blks) :
    ∃ b p g2, ixsR 1 out (.int .i64 (k : Int)) = some (.ptr b p) ∧ stR 1 g (.ptr b p) v' = .val aUndef g2 ∧ Fam r h0 g2 out (vs.set k v') (R.set k xs') ∧ (∀ S, Ext S h0 g → Ext S h0 g2) ∧ (∀ d cs, Ob g d cs → Ob g2 d cs) ∧ b ∈ out.blks ∧ ExtC b g g2 := by
  have hklt : k < vs.length := (List.getElem?_eq_some_iff.1 hv).1
  obtain ⟨xs, hk, gv, wv⟩ := f.fi.in_.at' hv
  have w' : Wr h0 g v' := fun b h => wv b (by rw [← hb]; exact h)
  have same : ∀ {i : Nat} {u : AVal}, (vs.set k v')[i]? = some u → ∃ u', vs[i]? = some u' ∧ u.blks = u'.blks := fun {i u} hu => by
    rw [List.getElem?_set] at hu
    by_cases hi : k = i
    · subst hi
      rw [if_pos rfl, if_pos hklt] at hu
      cases hu
      exact ⟨v, hv, hb⟩
    · rw [if_neg hi] at hu
      exact ⟨u, hu, rfl⟩
  have fi' : FamI r h0 g out (vs.set k v') (R.set k xs') := by
    refine ⟨f.fi.in_.set ⟨hg, w'⟩, fun i j u w hij hu hw b hb d hd => ?_, fun i u hu b hb d hd => ?_⟩
    · obtain ⟨u', k1, k2⟩ := same hu
      obtain ⟨w', k3, k4⟩ := same hw
      exact f.fi.d1 i j u' w' hij k1 k3 b (by rw [← k2]; exact hb) d (by rw [← k4]; exact hd)
    · obtain ⟨u', k1, k2⟩ := same hu
      exact f.fi.d2 i u' k1 b (by rw [← k2]; exact hb) d hd
  obtain ⟨b, p, B, g2, p1, p2, p3, p4, p5, p6, p7, p8, p9⟩ := fi'.poke flat f.sl f.wr hv hg.1.cells hg.1.one
  exact ⟨b, p, g2, p4, p7, p9, fun S e => e.extC p8 p3, fun d cs o => o.extC p8 p2, by rw [p1]; simp, p8⟩
end
end Go.Ab
