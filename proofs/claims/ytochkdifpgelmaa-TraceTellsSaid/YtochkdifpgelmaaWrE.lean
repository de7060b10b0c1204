/-
  Appends to a row of one's own, where the form asks for an end.
-/
import Derived.Test.YtochkdifpgelmaaB3
set_option linter.unusedVariables false
set_option linter.unusedSimpArgs false
namespace Go.Ab

theorem Tells.appNWE {β : Type} {Q : β → Heap → Prop} {h : Heap} {call : Nat → FuncId → List AVal → Heap → Res AVal} {α : Type} {r : Rp α} {h0 : Heap} {xs ys : List α} {s v : AVal} {n by_ : Nat} {k : Nat → AVal → Heap → Res β} (g : Gl r h0 h s xs) (wr : Wr h0 h s) (o : Sl r h v ys) (hn : r.n = n) (hl : xs.length + ys.length ≤ 2 ^ 34)
    (hby : by_ ≤ 2 ^ 12) (hle : h0.next ≤ h.next) (q : ∀ s' h', Gl r h0 h' s' (xs ++ ys) → Wr h0 h' s' → Ext s.blks h h' → (∀ S, Ext S h0 h → Ext S h0 h') → (∀ b, b ∈ s'.blks → b ∈ s.blks ∨ h.next ≤ b) → Tells (fun m => k m s' h') Q) :
    Tells (fun m => arbE (appR n by_ h s v) (call m) (k m)) Q := by
  obtain ⟨s', h', q1, q2, q3, q4, q5⟩ := g.appN (by_ := by_) o hn hl hby hle
  simp only [q1, arbE_val]
  exact q s' h' q2 (appR_wr q1 wr hle) q3 q4 fun b hb => (q5 b hb).imp_right fun z => by omega
theorem Tells.appNW {β : Type} {Q : β → Heap → Prop} {h : Heap} {call : Nat → FuncId → List AVal → Heap → Res AVal} {α : Type} {r : Rp α} {h0 : Heap} {xs ys : List α} {s v : AVal} {n by_ : Nat} {k : Nat → AVal → Heap → Res β} (g : Gl r h0 h s xs) (wr : Wr h0 h s) (o : Sl r h v ys) (hn : r.n = n) (hl : xs.length + ys.length ≤ 2 ^ 34)
    (hby : by_ ≤ 2 ^ 12) (hle : h0.next ≤ h.next) (q : ∀ s' h', Gl r h0 h' s' (xs ++ ys) → Wr h0 h' s' → Ext s.blks h h' → (∀ S, Ext S h0 h → Ext S h0 h') → (∀ b, b ∈ s'.blks → b ∈ s.blks ∨ h.next ≤ b) → Tells (fun m => k m s' h') Q) :
    Tells (fun m => arb (appR n by_ h s v) (call m) (k m)) Q := by
  obtain ⟨s', h', q1, q2, q3, q4, q5⟩ := g.appN (by_ := by_) o hn hl hby hle
  simp only [q1, arb_val]
  exact q s' h' q2 (appR_wr q1 wr hle) q3 q4 fun b hb => (q5 b hb).imp_right fun z => by omega
theorem Tells.app1WE {β : Type} {Q : β → Heap → Prop} {h : Heap} {call : Nat → FuncId → List AVal → Heap → Res AVal} {α : Type} {r : Rp α} {h0 : Heap} {xs : List α} {s v : AVal} {c z : List AVal} {x : α} {n by_ : Nat} {k : Nat → AVal → AVal → Heap → Res β} (g : Gl r h0 h s xs) (wr : Wr h0 h s) (hv : v.cells = c) (hk : v.known = true) (hx : r.rep h c x) (hn : r.n = n) (hz : z.length = n) (hl : xs.length < 2 ^ 33)
    (hby : by_ ≤ 2 ^ 12) (hle : h0.next ≤ h.next) (q : ∀ s' h', Gl r h0 h' s' (xs ++ [x]) → Wr h0 h' s' → Ext s.blks h h' → (∀ S, Ext S h0 h → Ext S h0 h') → (∀ b, b ∈ s'.blks → b ∈ s.blks ∨ h.next ≤ b) → Tells (fun m => k m (.sl h.next 0 1 1 n true) s' h') Q) :
    Tells (fun m => arbV (bslR n z 1 h [(0, n, v)]) fun a h2 => arbE (appR n by_ h2 s a) (call m) (k m a)) Q := by
  subst hv
  have hc : v.cells.length = n := by rw [← hn]; exact r.len hx
  obtain ⟨s', h', q1, q2, q3, q4, q5⟩ := g.app1 (by_ := by_) hx hn hl hby hle
  have e1 := Ext.new h false v.cells
  simp only [bsl1 hz hk hc, arbV_val, q1, arbE_val]
  exact q s' h' q2 (appR_wr q1 (wr.ext e1) (Nat.le_trans hle e1.next)) q3 q4 q5

end Go.Ab
