/-
  Appends: where the class of a row began.
-/
import Derived.Test.YtbolfamaffbnnaaB3
set_option linter.unusedVariables false
set_option linter.unusedSimpArgs false
namespace Go.Ab

theorem appR_root {h h' : Heap} {n by_ : Nat} {s x s' : AVal} (e : appR n by_ h s x = .val s' h') : ∀ d, d ∈ s'.blks → (∃ d', d' ∈ s.blks ∧ h'.root d = h.root d') ∨ h.next ≤ h'.root d := by
  have rootG : ∀ cs, h.next ≤ (h.newG cs).root h.next := fun cs => by
    unfold Heap.root; rw [Heap.cls_newG, if_pos rfl]; exact Nat.le_refl _
  have one : ∀ (h2 : Heap) (k c m : Nat) (ex : Bool), h.next ≤ h2.root h.next → ∀ d, d ∈ (AVal.sl h.next 0 k c m ex).blks → (∃ d', d' ∈ s.blks ∧ h2.root d = h.root d') ∨ h.next ≤ h2.root d := fun h2 k c m ex q d hd => by
    simp [AVal.blks] at hd
    subst hd
    exact .inr q
  unfold appR at e
  split at e
  · rename_i m new hs
    split at e
    · split at e
      · cases e; exact fun b hb => by simp [AVal.blks] at hb
      · split at e
        · cases e; exact one _ _ _ _ _ (rootG _)
        · cases e
    · rename_i b off len cap sz ex
      split at e
      · split at e
        · split at e
          · cases e; exact fun d hd => .inl ⟨d, hd, rfl⟩
          · split at e
            · split at e
              · split at e
                · rename_i h2 hp
                  cases e
                  obtain ⟨_, _, cs, _, _, rfl⟩ := Heap.put_eq hp
                  intro b' hb'
                  simp [AVal.blks] at hb'
                  refine .inl ⟨b', by simpa [AVal.blks] using hb', ?_⟩
                  unfold Heap.root
                  rw [Heap.cls_putB]
                · cases e
              · cases e
            · cases e
        · split at e
          · split at e
            · cases e; exact one _ _ _ _ _ (rootG _)
            · split at e
              · rename_i r hr
                split at e
                · cases e
                  intro d hd
                  simp [AVal.blks] at hd
                  subst hd
                  refine .inl ⟨b, by simp [AVal.blks], ?_⟩
                  unfold Heap.root
                  rw [Heap.cls_app h _ hr, if_pos rfl, hr]
                · cases e
              · cases e
          · cases e
      · cases e
    · cases e
  · cases e

section
variable {β : Type} {Q : β → Heap → Prop} {h : Heap} {call : Nat → FuncId → List AVal → Heap → Res AVal}
theorem Tells.app1R {α : Type} {r : Rp α} {h0 : Heap} {xs : List α} {s v : AVal} {c z : List AVal} {x : α} {n by_ : Nat} {k : Nat → AVal → AVal → Heap → Res β} (g : Gl r h0 h s xs) (wr : Wr h0 h s) (hv : v.cells = c) (hk : v.known = true) (hx : r.rep h c x) (hn : r.n = n) (hz : z.length = n) (hl : xs.length < 2 ^ 33)
    (hby : by_ ≤ 2 ^ 12) (hle : h0.next ≤ h.next) (q : ∀ s' h', Gl r h0 h' s' (xs ++ [x]) → Wr h0 h' s' → Ext s.blks h h' → (∀ S, Ext S h0 h → Ext S h0 h') → (∀ d, d ∈ s'.blks → (∃ d', d' ∈ s.blks ∧ h'.root d = h.root d') ∨ h.next ≤ h'.root d) → Tells (fun m => k m (.sl h.next 0 1 1 n true) s' h') Q) :
    Tells (fun m => arb (bslR n z 1 h [(0, n, v)]) (call m) fun a h2 => arb (appR n by_ h2 s a) (call m) (k m a)) Q := by
  subst hv
  have hc : v.cells.length = n := by rw [← hn]; exact r.len hx
  obtain ⟨s', h', q1, q2, q3, q4, q5⟩ := g.app1 (by_ := by_) hx hn hl hby hle
  have e1 := Ext.new h false v.cells
  simp only [bsl1 hz hk hc, arb_val, q1]
  refine q s' h' q2 (appR_wr q1 (wr.ext e1) (Nat.le_trans hle e1.next)) q3 q4 fun d hd => ?_
  rcases appR_root q1 d hd with ⟨d', k1, k2⟩ | k
  · exact .inl ⟨d', k1, by rw [k2, root_ext e1 (g.1.blk d' k1).2]⟩
  · exact .inr (Nat.le_trans e1.next k)
end
end Go.Ab
