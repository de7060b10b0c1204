/-
  Reckoning in the S-forms: rows of one's own are written in place.
-/
import Derived.Test.YtochkdifpgelmaaB2
set_option linter.unusedVariables false
set_option linter.unusedSimpArgs false
namespace Go.Ab

theorem flat_set {n : Nat} : ∀ {css : List (List AVal)}, (∀ c, c ∈ css → c.length = n) → ∀ {i k : Nat} {c : List AVal} {x : AVal}, css[i]? = some c → k < n → (css.set i (c.set k x)).flatten = css.flatten.set (i * n + k) x
  | [], _, i, k, c, x, e, _ => by simp at e
  | d :: r, h, 0, k, c, x, e, hk => by
    simp at e; subst e
    have h1 := h d (by simp)
    simp only [List.set_cons_zero, List.flatten_cons, Nat.zero_mul, Nat.zero_add]
    rw [List.set_append_left _ _ (by omega)]
  | d :: r, h, i + 1, k, c, x, e, hk => by
    have h1 := h d (by simp)
    have ih := flat_set (css := r) (fun d hd => h d (by simp [hd])) (i := i) (k := k) (c := c) (x := x) (by simpa using e) hk
    simp only [List.set_cons_succ, List.flatten_cons]
    rw [ih, List.set_append_right _ _ (by rw [h1, Nat.add_mul, Nat.one_mul]; omega), h1]
    congr 2
    rw [Nat.add_mul, Nat.one_mul]; omega

theorem All2.set {α β : Type} {R : α → β → Prop} : ∀ {l : List α} {m : List β}, All2 R l m → ∀ {i : Nat} {a : α} {b : β}, R a b → All2 R (l.set i a) (m.set i b)
  | [], [], _, i, a, b, _ => by simp [All2]
  | _ :: _, _ :: _, h, 0, a, b, k => ⟨k, h.2⟩
  | _ :: _, _ :: _, h, i + 1, a, b, k => ⟨h.1, All2.set h.2 k⟩
  | [], _ :: _, h, _, _, _, _ => h.elim
  | _ :: _, [], h, _, _, _, _ => h.elim

theorem All2.at' {α β : Type} {R : α → β → Prop} : ∀ {l : List α} {m : List β}, All2 R l m → ∀ {i : Nat} {a : α}, l[i]? = some a → ∃ b, m[i]? = some b ∧ R a b
  | [], [], _, i, b, e => by simp at e
  | a :: _, b :: _, h, 0, _, e => by simp at e; subst e; exact ⟨b, rfl, h.1⟩
  | _ :: _, _ :: _, h, i + 1, b, e => by
    obtain ⟨a, h1, h2⟩ := All2.at' h.2 (i := i) (by simpa using e)
    exact ⟨a, by simpa using h1, h2⟩
  | [], _ :: _, h, _, _, _ => h.elim
  | _ :: _, [], h, _, _, _ => h.elim

/-- A cell of a row of one's own, whose elements hold no row. -/
theorem Sl.poke {α : Type} {r : Rp α} {n : Nat} {S : List Nat} {h0 h : Heap} {v : AVal} {xs : List α} (hn : r.n = n) (flat : ∀ {h h' cs x}, r.rep h cs x → r.rep h' cs x) (o : Sl r h v xs) (w : Wr h0 h v) (e0 : Ext S h0 h) {i : Nat} {y : α} (hy : xs[i]? = some y) :
    ∃ b p B c, ixsR n v (.int .i64 (i : Int)) = some (.ptr b p) ∧ Elem h b p B c ∧ r.rep h c y ∧
      ∀ (k : Nat) (x : AVal) (y' : α), k < n → x.cells = [x] → x.one = true → r.rep h (c.set k x) y' → ∃ h', stR 1 h (.ptr b (p + k)) x = .val aUndef h' ∧ Ext S h0 h' ∧ Wr h0 h' v ∧ Sl r h' v (xs.set i y') ∧ h'.next = h.next ∧
        (∀ c, h'.isM c = h.isM c) ∧ ∀ (b2 : Nat) (cs : List AVal), Ob h b2 cs → Ob h' b2 cs := by
  subst hn
  obtain ⟨css, s, a⟩ := o
  obtain ⟨c, hc, hr⟩ := a.at hy
  have hlt : i < css.length := (List.getElem?_eq_some_iff.1 hc).1
  have hm := List.mem_of_getElem? hc
  rcases s with ⟨rfl, rfl⟩ | ⟨b, off, cap, sz, ex, B, rfl, h2, h3, h4, h5, h6, h7, h8⟩
  · simp at hc
  · obtain ⟨w1, w2, w3⟩ := w b (by simp [AVal.blks])
    have hcl := h8 c hm
    have hle : (i + 1) * r.n ≤ css.length * r.n := Nat.mul_le_mul_right _ hlt
    rw [Nat.add_mul, Nat.one_mul] at hle
    have hel : Elem h b (off + i * r.n) B c := by
      refine ⟨h4, h5, by omega, ?_⟩
      have := flat_at h8 hc
      rw [← h7] at this
      rw [hcl, ← List.drop_drop]
      rw [List.drop_take, List.take_take, Nat.min_eq_left (by omega)] at this
      exact this
    refine ⟨b, off + i * r.n, B, c, ?_, hel, hr, fun k x y' hk hx h1 hy' => ?_⟩
    · simp only [ixsR]
      rw [if_pos ⟨by omega, by omega⟩]
      simp
    · have hp : off + i * r.n + k < B.length := by omega
      have hpg := fun j => Heap.get_putB h w2 (get_lt h4) (Heap.up_of_get w2 h4) (B.set (off + i * r.n + k) x) j
      have e : stR 1 h (.ptr b (off + i * r.n + k)) x = .val aUndef (h.putB b (B.set (off + i * r.n + k) x)) := by
        simp only [stR, Heap.put, hx]
        rw [if_pos ⟨rfl, by simp [h1]⟩, if_neg (by omega), h4]
        simp only [List.length_singleton]
        rw [if_pos (by omega), splice_set hp]
      refine ⟨_, e, e0.putD w2 h4 w1, fun b' hb' => ?_, ?_, Heap.next_putB _ _ _, fun c => Heap.isM_putB _ _ _ c, fun b2 cs ob => ?_⟩
      · simp [AVal.blks] at hb'
        subst hb'
        refine ⟨?_, by rw [Heap.n0_putB]; exact w2, by rw [Heap.next_putB]; exact w3⟩
        unfold Heap.root
        rw [Heap.cls_putB]
        exact w1
      · have h8' : ∀ d, d ∈ css.set i (c.set k x) → d.length = r.n := fun d hd => by
          rcases List.mem_or_eq_of_mem_set hd with q | q
          · exact h8 d q
          · rw [q, List.length_set]; exact hcl
        refine ⟨css.set i (c.set k x), .inr ⟨b, off, cap, sz, ex, _, by rw [List.length_set], h2, by rw [List.length_set]; exact h3, (hpg b).1 rfl, by rw [Heap.isM_putB]; exact h5, by rw [List.length_set, List.length_set]; exact h6, ?_, h8'⟩, (a.imp fun _ _ q => flat q).set (flat hy')⟩
        rw [List.length_set, flat_set h8 hc hk, ← h7, List.drop_set, if_neg (by omega), show off + i * r.n + k - off = i * r.n + k by omega, List.take_set]
      · have hne : b2 ≠ b := fun q => by subst q; have := ob.2.1; rw [h5] at this; cases this
        refine ⟨?_, by rw [Heap.isM_putB]; exact ob.2.1, by rw [Heap.cls_putB]; exact ob.2.2⟩
        rw [(hpg b2).2.2 hne fun ⟨_, r', q1, q2, _⟩ => by rw [ob.2.2] at q2; cases q2]
        exact ob.1

theorem appR_wr {h0 h h' : Heap} {n by_ : Nat} {s x s' : AVal} (e : appR n by_ h s x = .val s' h') (w : Wr h0 h s) (hle : h0.next ≤ h.next) : Wr h0 h' s' := by
  have fresh : ∀ (h2 : Heap) (k c m : Nat) (ex : Bool), h2.n0 = h.n0 → h2.next = h.next + 1 → h0.next ≤ h2.root h.next → Wr h0 h2 (.sl h.next 0 k c m ex) := fun h2 k c m ex e1 e2 e3 b hb => by
    simp [AVal.blks] at hb
    subst hb
    exact ⟨e3, by rw [e1]; exact n0_le h, by omega⟩
  have rootG : ∀ cs, h0.next ≤ (h.newG cs).root h.next := fun cs => by
    unfold Heap.root; rw [Heap.cls_newG, if_pos rfl]; exact hle
  unfold appR at e
  split at e
  · rename_i m new hs
    split at e
    · split at e
      · cases e; exact fun b hb => by simp [AVal.blks] at hb
      · split at e
        · cases e; exact fresh _ _ _ _ _ rfl (next_newG' h _) (rootG _)
        · cases e
    · rename_i b off len cap sz ex
      have wb := w b (by simp [AVal.blks])
      split at e
      · split at e
        · split at e
          · cases e; exact w
          · split at e
            · split at e
              · split at e
                · rename_i h2 hp
                  cases e
                  obtain ⟨_, _, cs, _, _, rfl⟩ := Heap.put_eq hp
                  intro b' hb'
                  simp [AVal.blks] at hb'
                  subst hb'
                  refine ⟨?_, by rw [Heap.n0_putB]; exact wb.2.1, by rw [Heap.next_putB]; exact wb.2.2⟩
                  unfold Heap.root
                  rw [Heap.cls_putB]
                  exact wb.1
                · cases e
              · cases e
            · cases e
        · split at e
          · split at e
            · cases e; exact fresh _ _ _ _ _ rfl (next_newG' h _) (rootG _)
            · split at e
              · rename_i r hr
                split at e
                · cases e
                  refine fresh _ _ _ _ _ rfl (next_app' h _ _ _) ?_
                  unfold Heap.root
                  rw [Heap.cls_app h _ hr, if_pos rfl]
                  have := wb.1
                  unfold Heap.root at this
                  rw [hr] at this
                  exact this
                · cases e
              · cases e
          · cases e
      · cases e
    · cases e
  · cases e

section
variable {β : Type} {Q : β → Heap → Prop} {h : Heap} {call : Nat → FuncId → List AVal → Heap → Res AVal}
/-- append(s, x) to a row of one's own -/
theorem Tells.app1W {α : Type} {r : Rp α} {h0 : Heap} {xs : List α} {s v : AVal} {c z : List AVal} {x : α} {n by_ : Nat} {k : Nat → AVal → AVal → Heap → Res β} (g : Gl r h0 h s xs) (wr : Wr h0 h s) (hv : v.cells = c) (hk : v.known = true) (hx : r.rep h c x) (hn : r.n = n) (hz : z.length = n) (hl : xs.length < 2 ^ 33)
    (hby : by_ ≤ 2 ^ 12) (hle : h0.next ≤ h.next) (q : ∀ s' h', Gl r h0 h' s' (xs ++ [x]) → Wr h0 h' s' → Ext s.blks h h' → (∀ S, Ext S h0 h → Ext S h0 h') → (∀ b, b ∈ s'.blks → b ∈ s.blks ∨ h.next ≤ b) → Tells (fun m => k m (.sl h.next 0 1 1 n true) s' h') Q) :
    Tells (fun m => arb (bslR n z 1 h [(0, n, v)]) (call m) fun a h2 => arb (appR n by_ h2 s a) (call m) (k m a)) Q := by
  subst hv
  have hc : v.cells.length = n := by rw [← hn]; exact r.len hx
  obtain ⟨s', h', q1, q2, q3, q4, q5⟩ := g.app1 (by_ := by_) hx hn hl hby hle
  have e1 := Ext.new h false v.cells
  simp only [bsl1 hz hk hc, arb_val, q1]
  exact q s' h' q2 (appR_wr q1 (wr.ext e1) (Nat.le_trans hle e1.next)) q3 q4 q5
end

end Go.Ab
