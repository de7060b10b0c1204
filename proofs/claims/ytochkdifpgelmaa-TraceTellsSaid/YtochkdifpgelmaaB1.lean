/-
  Reckoning in the S-forms: rows whose elements stand for something.
-/
import Derived.Test.YtochkdifpgelmaaB0
set_option linter.unusedVariables false
set_option linter.unusedSimpArgs false
namespace Go.Ab

/-- an int -/
abbrev I (n : Int) : AVal := .int .i64 n
def In64 (n : Int) : Prop := -9223372036854775808 ≤ n ∧ n < 9223372036854775808
theorem wrap_id {n : Int} (h1 : -9223372036854775808 ≤ n) (h2 : n < 9223372036854775808) : IntKind.i64.wrap n = n := by
  show (if true && decide (n % 18446744073709551616 ≥ 9223372036854775808) then n % 18446744073709551616 - 18446744073709551616 else n % 18446744073709551616) = n
  simp only [Bool.true_and, decide_eq_true_eq]
  split <;> omega
theorem wrap_in (n : Int) : In64 (IntKind.i64.wrap n) := by
  show In64 (if true && decide (n % 18446744073709551616 ≥ 9223372036854775808) then n % 18446744073709551616 - 18446744073709551616 else n % 18446744073709551616)
  simp only [Bool.true_and, decide_eq_true_eq, In64]
  split <;> omega

theorem Tells.ite {β : Type} {Q : β → Heap → Prop} {c : Prop} [Decidable c] {x y : Nat → Res β} (a : c → Tells x Q) (b : ¬ c → Tells y Q) : Tells (fun m => if c then x m else y m) Q := by
  by_cases h : c
  · simp only [if_pos h]; exact a h
  · simp only [if_neg h]; exact b h
theorem Tells.cb {β : Type} {Q : β → Heap → Prop} {c : Bool} {x y : Nat → Res β} (a : c = true → Tells x Q) (b : c = false → Tells y Q) : Tells (fun m => cb (.bool c) (x m) (y m)) Q := by
  cases c
  · exact b rfl
  · exact a rfl

mutual
theorem aEq_refl : ∀ v : AVal, aEq v v = true
  | .bool b => by simp [aEq]
  | .int k n => by simp [aEq]
  | .flt k n => by simp [aEq]
  | .str s => by simp [aEq]
  | .nilp => by simp [aEq]
  | .ptr b o => by simp [aEq]
  | .nils => by simp [aEq]
  | .sl .. => by simp [aEq]
  | .fn f a c => by simp [aEq, aEqs_refl a, aEqs_refl c]
  | .nilf => by simp [aEq]
  | .iface t v => by simp [aEq, aEq_refl v]
  | .nili => by simp [aEq]
  | .agg cs => by simp [aEq, aEqs_refl cs]
  | .tup cs => by simp [aEq, aEqs_refl cs]
  | .mp b => by simp [aEq]
  | .opq => by simp [aEq]
theorem aEqs_refl : ∀ l : List AVal, aEqs l l = true
  | [] => by simp [aEqs]
  | v :: r => by simp [aEqs, aEq_refl v, aEqs_refl r]
end
@[simp] theorem isV_self (v : AVal) : isV v (some v) = true := aEq_refl v

/-! ### what cells stand for -/

structure Rp (α : Type) where
  n : Nat
  pos : 0 < n
  rep : Heap → List AVal → α → Prop
  len : ∀ {h cs x}, rep h cs x → cs.length = n
  one : ∀ {h cs x}, rep h cs x → cs.all AVal.one = true
  ext : ∀ {S h h' cs x}, rep h cs x → Ext S h h' → rep h' cs x

def intR : Rp Int := ⟨1, by decide, fun _ cs x => cs = [I x], fun h => by rw [h]; rfl, fun h => by rw [h]; rfl, fun h _ => h⟩
def boolR : Rp Bool := ⟨1, by decide, fun _ cs x => cs = [.bool x], fun h => by rw [h]; rfl, fun h => by rw [h]; rfl, fun h _ => h⟩
def strR : Rp ByteArray := ⟨1, by decide, fun _ cs x => cs = [.str x], fun h => by rw [h]; rfl, fun h => by rw [h]; rfl, fun h _ => h⟩
def byteR : Rp UInt8 := ⟨1, by decide, fun _ cs x => cs = [.int .u8 x.toNat], fun h => by rw [h]; rfl, fun h => by rw [h]; rfl, fun h _ => h⟩

def All2 {α β : Type} (R : α → β → Prop) : List α → List β → Prop
  | [], [] => True
  | a :: as, b :: bs => R a b ∧ All2 R as bs
  | _, _ => False

section
variable {α β : Type} {R R' : α → β → Prop}
theorem All2.len : ∀ {l : List α} {m : List β}, All2 R l m → l.length = m.length
  | [], [], _ => rfl
  | _ :: _, _ :: _, h => by simp [All2.len h.2]
  | [], _ :: _, h => h.elim
  | _ :: _, [], h => h.elim
theorem All2.imp (f : ∀ a b, R a b → R' a b) : ∀ {l : List α} {m : List β}, All2 R l m → All2 R' l m
  | [], [], _ => trivial
  | _ :: _, _ :: _, h => ⟨f _ _ h.1, All2.imp f h.2⟩
  | [], _ :: _, h => h.elim
  | _ :: _, [], h => h.elim
theorem All2.app : ∀ {l l' : List α} {m m' : List β}, All2 R l m → All2 R l' m' → All2 R (l ++ l') (m ++ m')
  | [], _, [], _, _, k => k
  | _ :: _, _, _ :: _, _, h, k => ⟨h.1, All2.app h.2 k⟩
  | [], _, _ :: _, _, h, _ => h.elim
  | _ :: _, _, [], _, h, _ => h.elim
theorem All2.at : ∀ {l : List α} {m : List β}, All2 R l m → ∀ {i : Nat} {b : β}, m[i]? = some b → ∃ a, l[i]? = some a ∧ R a b
  | [], [], _, i, b, e => by simp at e
  | a :: _, _ :: _, h, 0, b, e => by simp at e; subst e; exact ⟨a, rfl, h.1⟩
  | _ :: _, _ :: _, h, i + 1, b, e => by
    obtain ⟨a, h1, h2⟩ := All2.at h.2 (i := i) (by simpa using e)
    exact ⟨a, by simpa using h1, h2⟩
  | [], _ :: _, h, _, _, _ => h.elim
  | _ :: _, [], h, _, _, _ => h.elim
theorem All2.take : ∀ {l : List α} {m : List β}, All2 R l m → ∀ k, All2 R (l.take k) (m.take k)
  | [], [], _, k => by simp [All2]
  | _ :: _, _ :: _, h, 0 => trivial
  | _ :: _, _ :: _, h, k + 1 => ⟨h.1, All2.take h.2 k⟩
  | [], _ :: _, h, _ => h.elim
  | _ :: _, [], h, _ => h.elim
theorem All2.drop : ∀ {l : List α} {m : List β}, All2 R l m → ∀ k, All2 R (l.drop k) (m.drop k)
  | [], [], _, k => by simp [All2]
  | _ :: _, _ :: _, h, 0 => h
  | _ :: _, _ :: _, h, k + 1 => All2.drop h.2 k
  | [], _ :: _, h, _ => h.elim
  | _ :: _, [], h, _ => h.elim
end

section
variable {α : Type} {r : Rp α} {S : List Nat} {h0 h h' : Heap} {v : AVal} {xs ys : List α}

theorem reps_all : ∀ {css : List (List AVal)} {xs : List α}, All2 (r.rep h) css xs → (∀ c, c ∈ css → c.length = r.n) ∧ css.flatten.all AVal.one = true
  | [], [], _ => ⟨by simp, rfl⟩
  | c :: css, x :: xs, k => by
    obtain ⟨h1, h2⟩ := reps_all k.2
    refine ⟨fun d hd => ?_, ?_⟩
    · rcases List.mem_cons.1 hd with q | q
      · rw [q]; exact r.len k.1
      · exact h1 d q
    · rw [List.flatten_cons, List.all_append, r.one k.1, h2]; rfl
  | [], _ :: _, k => k.elim
  | _ :: _, [], k => k.elim

/-- A slice of what r tells. -/
def Sl (r : Rp α) (h : Heap) (v : AVal) (xs : List α) : Prop := ∃ css, SlC h r.n v css ∧ All2 (r.rep h) css xs
theorem Sl.ext (o : Sl r h v xs) (e : Ext S h h') : Sl r h' v xs := by
  obtain ⟨css, h1, h2⟩ := o; exact ⟨css, h1.ext e, h2.imp fun _ _ k => r.ext k e⟩
theorem Sl.len (o : Sl r h v xs) : lenL v = some (I xs.length) := by
  obtain ⟨css, h1, h2⟩ := o; rw [h1.len, h2.len]
theorem Sl.one (o : Sl r h v xs) : v.one = true := o.choose_spec.1.one
theorem Sl.known (o : Sl r h v xs) : v.known = true := o.choose_spec.1.known
theorem Sl.cells (o : Sl r h v xs) : v.cells = [v] := o.choose_spec.1.cells
theorem Sl.nil : Sl r h .nils [] := ⟨[], .nil, trivial⟩
theorem Sl.at (o : Sl r h v xs) {n : Nat} (hn : r.n = n) {i : Int} {x : α} (hi : 0 ≤ i) (hx : xs[i.toNat]? = some x) : ∃ b p B c, ixsR n v (.int .i64 i) = some (.ptr b p) ∧ Elem h b p B c ∧ r.rep h c x := by
  obtain ⟨css, h1, h2⟩ := o
  obtain ⟨c, k1, k2⟩ := h2.at hx
  obtain ⟨b, p, B, q1, q2⟩ := h1.at hi k1
  exact ⟨b, p, B, c, by rw [← hn]; exact q1, q2, k2⟩
theorem Sl.src (o : Sl r h v xs) : ∃ dss : List (List AVal), aSource h r.n false v = some (dss.length, dss.flatten) ∧ All2 (r.rep h) dss xs := by
  obtain ⟨css, h1, h2⟩ := o; exact ⟨css, h1.src, h2⟩

def Gl (r : Rp α) (h0 h : Heap) (v : AVal) (xs : List α) : Prop := Sl r h v xs ∧ Gro h0 h r.n v
theorem Gl.nil : Gl r h0 h .nils [] := ⟨Sl.nil, .nil⟩
theorem Gl.ext (g : Gl r h0 h v xs) (e : Ext S h h') (hs : ∀ b, b ∈ v.blks → b ∉ S) : Gl r h0 h' v xs := ⟨g.1.ext e, g.2.ext e hs⟩
theorem Gl.extO (g : Gl r h0 h v xs) (e : Ext S h h') (hs : ∀ b, b ∈ S → h.isM b = true ∨ h.next ≤ b) : Gl r h0 h' v xs := ⟨g.1.ext e, g.2.extO g.1.choose_spec.1 e hs⟩
theorem Gl.e (g : Gl r h0 h v xs) (e : Ext [] h h') : Gl r h0 h' v xs := ⟨g.1.ext e, g.2.e e⟩
theorem Gl.back {h1 : Heap} (g : Gl r h1 h v xs) (hn : h0.next ≤ h1.next) : Gl r h0 h v xs := ⟨g.1, g.2.back hn⟩

/-- append(s, ys...) -/
theorem Gl.appN {s x : AVal} {n by_ : Nat} (g : Gl r h0 h s xs) (o : Sl r h x ys) (hn : r.n = n) (hl : xs.length + ys.length ≤ 2 ^ 34) (hby : by_ ≤ 2 ^ 12) (hle : h0.next ≤ h.next) :
    ∃ s' h', appR n by_ h s x = .val s' h' ∧ Gl r h0 h' s' (xs ++ ys) ∧ Ext s.blks h h' ∧ (∀ S, Ext S h0 h → Ext S h0 h') ∧ (∀ b, b ∈ s'.blks → b ∈ s.blks ∨ b = h.next) := by
  obtain ⟨⟨css, g1, g2⟩, g3⟩ := g
  obtain ⟨dss, o1, o2⟩ := o.src
  obtain ⟨d1, d2⟩ := reps_all o2
  have l1 := g2.len
  have l2 := o2.len
  obtain ⟨s', h', q1, q2, q3, q4, q5, q6⟩ := app_ok (by_ := by_) r.pos g1 g3 o1 d1 d2 (by omega) hby hle
  subst hn
  exact ⟨s', h', q1, ⟨⟨css ++ dss, q2, (g2.imp fun _ _ k => r.ext k q4).app (o2.imp fun _ _ k => r.ext k q4)⟩, q3⟩, q4, q5, q6⟩

theorem Sl.lit {css : List (List AVal)} {k n : Nat} {cells : List AVal} (hn : r.n = n) (o : All2 (r.rep h) css xs) (hk : xs.length = k) (hc : css.flatten = cells) : Sl r (h.new false cells) (.sl h.next 0 k k n true) xs ∧ Gl r h0 (h.new false cells) (.sl h.next 0 k k n true) xs := by
  obtain ⟨d1, d2⟩ := reps_all o
  have l := o.len
  have hf := flat_len d1
  subst hn
  have a : Sl r (h.new false cells) (.sl h.next 0 k k r.n true) xs := by
    refine ⟨css, .inr ⟨h.next, 0, k, r.n, true, cells, by rw [l, hk], .inl rfl, by omega, by rw [Heap.get_new, if_pos rfl], by rw [isM_new, if_pos rfl], by rw [← hc, hf]; omega, ?_, d1⟩, o.imp fun _ _ q => r.ext q (Ext.new _ _ _)⟩
    rw [← hc, List.drop_zero, ← hf, List.take_length]
  exact ⟨a, a, .inr ⟨_, _, _, _, _, _, rfl, .inl ⟨rfl, rfl⟩⟩⟩

/-- append(s, x) -/
theorem Gl.app1 {s : AVal} {c : List AVal} {x : α} {n by_ : Nat} (g : Gl r h0 h s xs) (hx : r.rep h c x) (hn : r.n = n) (hl : xs.length < 2 ^ 33) (hby : by_ ≤ 2 ^ 12) (hle : h0.next ≤ h.next) :
    ∃ s' h', appR n by_ (h.new false c) s (.sl h.next 0 1 1 n true) = .val s' h' ∧ Gl r h0 h' s' (xs ++ [x]) ∧ Ext s.blks h h' ∧ (∀ S, Ext S h0 h → Ext S h0 h') ∧ (∀ b, b ∈ s'.blks → b ∈ s.blks ∨ h.next ≤ b) := by
  have e1 := Ext.new h false c
  have lit := (Sl.lit (h0 := h0) (r := r) (h := h) (xs := [x]) (css := [c]) (cells := c) hn ⟨hx, trivial⟩ rfl (by simp)).1
  obtain ⟨s', h', q1, q2, q3, q4, q5⟩ := (g.e e1).appN (by_ := by_) lit hn (by simp; omega) hby (Nat.le_trans hle e1.next)
  refine ⟨s', h', q1, q2, e1.of.trans q3, fun S e => q4 S (e.quiet e1), fun b hb => ?_⟩
  rcases q5 b hb with k | k
  · exact .inl k
  · right; rw [k]; exact e1.next

theorem bsl1 {n : Nat} {z : List AVal} {x : AVal} (hz : z.length = n) (hk : x.known = true) (hc : x.cells.length = n) : bslR n z 1 h [(0, n, x)] = .val (.sl h.next 0 1 1 n true) (h.new false x.cells) := by
  have : splice z 0 x.cells = x.cells := by simp [splice, hc, ← hz]
  simp [bslR, fillR, hk, hc, hz, this]
theorem bsl0 (n : Nat) (h : Heap) : bslR n [] 0 h [] = .val (.sl h.next 0 0 0 n true) (h.new false []) := (rfl)
theorem bsl1_int (k : IntKind) (n : Int) (z : AVal) (h : Heap) : bslR 1 [z] 1 h [(0, 1, .int k n)] = .val (.sl h.next 0 1 1 1 true) (h.new false [.int k n]) := bsl1 rfl rfl rfl
theorem bsl1_one {z x : AVal} (hk : x.known = true) (hc : x.cells = [x]) : bslR 1 [z] 1 h [(0, 1, x)] = .val (.sl h.next 0 1 1 1 true) (h.new false [x]) := by
  rw [bsl1 (n := 1) (z := [z]) rfl hk (by rw [hc]; rfl), hc]
theorem bsl1_agg {n : Nat} {z cs : List AVal} (hz : z.length = n) (hc : cs.length = n) : bslR n z 1 h [(0, n, .agg cs)] = .val (.sl h.next 0 1 1 n true) (h.new false cs) := bsl1 hz rfl hc

/-- xs[lo:hi], whatever is given. -/
theorem Sl.cut {n : Nat} (o : Sl r h v xs) (hn : r.n = n) (hnil : v ≠ .nils) {lo hi : Nat} (h1 : lo ≤ hi) (h2 : hi ≤ xs.length) :
    (∃ v', slcR n v (some (.int .i64 lo)) (some (.int .i64 hi)) none = some v' ∧ Sl r h v' ((xs.take hi).drop lo) ∧ v'.blks = v.blks) ∧
    (lo = 0 → ∃ v', slcR n v none (some (.int .i64 hi)) none = some v' ∧ Sl r h v' (xs.take hi) ∧ v'.blks = v.blks) ∧
    (hi = xs.length → ∃ v', slcR n v (some (.int .i64 lo)) none none = some v' ∧ Sl r h v' (xs.drop lo) ∧ v'.blks = v.blks) ∧
    (lo = 0 → ∃ v', slcR n v none (some (.int .i64 hi)) (some (.int .i64 hi)) = some v' ∧ Sl r h v' (xs.take hi) ∧ v'.blks = v.blks ∧ ∀ h0, Gro h0 h n v') := by
  subst hn
  obtain ⟨css, s, a⟩ := o
  have l := a.len
  rcases s with ⟨rfl, _⟩ | ⟨b, off, cap, sz, ex, B, rfl, s2, s3, s4, s5, s6, s7, s8⟩
  · exact absurd rfl hnil
  · have c1 : (lo : Int) ≤ (hi : Int) := by omega
    have c2 : (hi : Int) ≤ (cap : Int) := by omega
    have c3 : (lo : Int) ≤ (css.length : Int) := by omega
    have hz : (0 : Int) ≤ (lo : Int) := by omega
    have hz2 : (0 : Int) ≤ (hi : Int) := by omega
    have z0 : (0 : Int) ≤ 0 := by omega
    refine ⟨⟨.sl b (off + lo * r.n) (hi - lo) (cap - lo) sz ex, by simp [slcR, aBoundO, aBound, c1, c2, s2], ⟨_, SlC.sub s2 s3 s4 s5 s6 s7 s8 h1 (by omega) (by omega) s2, (a.take hi).drop lo⟩, rfl⟩, fun q => ?_, fun q => ?_, fun q => ?_⟩
    · subst q
      refine ⟨.sl b off hi cap sz ex, by simp [slcR, aBoundO, aBound, c2, s2], ?_, rfl⟩
      have := SlC.sub (lo := 0) (hi := hi) (cap' := cap) s2 s3 s4 s5 s6 s7 s8 h1 (by omega) (by omega) s2
      exact ⟨_, by simpa using this, a.take hi⟩
    · subst q
      refine ⟨.sl b (off + lo * r.n) (css.length - lo) (cap - lo) sz ex, by simp [slcR, aBoundO, aBound, c3, s2], ?_, rfl⟩
      have := SlC.sub (lo := lo) (hi := css.length) (cap' := cap - lo) s2 s3 s4 s5 s6 s7 s8 (by omega) (by omega) (by omega) s2
      exact ⟨_, by simpa using this, a.drop lo⟩
    · subst q
      refine ⟨.sl b off hi hi sz true, by simp [slcR, aBoundO, aBound, c2], ?_, rfl, fun h0 => .inr ⟨_, _, _, _, _, _, rfl, .inl ⟨rfl, rfl⟩⟩⟩
      have := SlC.sub (lo := 0) (hi := hi) (cap' := hi) s2 s3 s4 s5 s6 s7 s8 h1 (by omega) (by omega) (ex' := true) (.inl rfl)
      exact ⟨_, by simpa using this, a.take hi⟩
theorem Sl.nils (o : Sl r h .nils xs) : xs = [] := by
  obtain ⟨css, s, a⟩ := o
  rcases s with ⟨_, rfl⟩ | ⟨b, off, cap, sz, ex, B, k, _⟩
  · cases xs with
    | nil => rfl
    | cons => exact a.elim
  · cases k
/-- xs[:hi] -/
theorem Sl.takeR {n : Nat} (o : Sl r h v xs) (hn : r.n = n) {hi : Nat} (h2 : hi ≤ xs.length) : ∃ v', slcR n v none (some (.int .i64 hi)) none = some v' ∧ Sl r h v' (xs.take hi) ∧ v'.blks = v.blks := by
  by_cases hv : v = .nils
  · subst hv
    have := o.nils
    subst this
    have : hi = 0 := by simpa using h2
    subst this
    exact ⟨.nils, by simp [slcR, aBoundO, aBound], by simpa using o, rfl⟩
  · exact (o.cut hn hv (lo := 0) (Nat.zero_le _) h2).2.1 rfl
/-- xs[lo:] -/
theorem Sl.dropR {n : Nat} (o : Sl r h v xs) (hn : r.n = n) {lo : Nat} (h2 : lo ≤ xs.length) : ∃ v', slcR n v (some (.int .i64 lo)) none none = some v' ∧ Sl r h v' (xs.drop lo) ∧ v'.blks = v.blks := by
  by_cases hv : v = .nils
  · subst hv
    have := o.nils
    subst this
    have : lo = 0 := by simpa using h2
    subst this
    exact ⟨.nils, by simp [slcR, aBoundO, aBound], by simpa using o, rfl⟩
  · exact (o.cut hn hv (hi := xs.length) h2 (Nat.le_refl _)).2.2.1 rfl
theorem Sl.atI {xs : List Int} (o : Sl intR h v xs) {i : Nat} {x : Int} (hx : xs[i]? = some x) : ∃ b p B, ixsR 1 v (.int .i64 (i : Int)) = some (.ptr b p) ∧ h.get b = some B ∧ B[p]? = some (.int .i64 x) := by
  obtain ⟨b, p, B, c, q1, q2, q3⟩ := o.at (n := 1) rfl (i := (i : Int)) (by omega) (by simpa using hx)
  have q3 : c = [I x] := q3
  subst q3
  exact ⟨b, p, B, q1, q2.get, q2.cell0 (by simp)⟩
theorem Gro.dropR {v v' : AVal} {n lo : Nat} {h0 h : Heap} (g : Gro h0 h n v) (e : slcR n v (some (.int .i64 lo)) none none = some v') (hlo : ∀ m : Nat, lenL v = some (I m) → lo ≤ m) : Gro h0 h n v' := by
  rcases g with rfl | ⟨b, off, len, cap, sz, ex, rfl, g⟩
  · simp only [slcR] at e
    repeat' split at e
    all_goals (try cases e)
    exact .inl rfl
  · have hl := hlo len rfl
    have c1 : (lo : Int) ≤ (len : Int) := by omega
    simp [slcR, aBoundO, aBound, c1] at e
    obtain ⟨_, rfl⟩ := e
    rcases g with ⟨g1, g2⟩ | ⟨g1, g2, g3, g4, g5, g6, r, B, g7, g8, g9, g10, g11⟩
    · exact .inr ⟨_, _, _, _, _, _, rfl, .inl ⟨g1, by omega⟩⟩
    · refine .inr ⟨_, _, _, _, _, _, rfl, .inr ⟨g1, g2, by omega, g4, g5, g6, r, B, g7, g8, g9, ?_, g11⟩⟩
      rw [g10, Nat.sub_mul]
      have : lo * n ≤ len * n := Nat.mul_le_mul_right _ hl
      omega
theorem Sl.blk (o : Sl r h v xs) : ∀ b, b ∈ v.blks → h.isM b = false ∧ b < h.next := by
  intro b hb
  obtain ⟨css, s, a⟩ := o
  rcases s with ⟨rfl, _⟩ | ⟨b', off, cap, sz, ex, B, rfl, _, _, h4, h5, _⟩
  · simp [AVal.blks] at hb
  · simp [AVal.blks] at hb
    subst hb
    exact ⟨h5, get_lt h4⟩
theorem Sl.ob {bp : Nat} {cs : List AVal} (o : Sl r h v xs) (ob : Ob h bp cs) : bp ∉ v.blks := fun hb => by
  have := (o.blk bp hb).1
  rw [ob.2.1] at this; cases this
theorem Sl.ne (o : Sl r h v xs) (hx : 0 < xs.length) : v ≠ .nils := by
  intro q; subst q; have := o.nils; subst this; simp at hx

end
end Go.Ab
