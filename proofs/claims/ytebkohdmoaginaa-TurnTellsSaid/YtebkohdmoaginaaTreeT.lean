/-
  The plain theory of ways in a tree: what pathF tells.
-/
import Derived.Test.YtebkohdmoaginaaPath2a
set_option linter.unusedVariables false
set_option linter.unusedSimpArgs false
namespace Go.Proofs.Ytebkohdmoaginaa
open Go.Ab

def parF (ys : List Int) (a : Int) : Int := ys[(a - 1).toNat]?.getD 0

section
variable {ys : List Int} (ok : TreeOk ys)
include ok

theorem par_lt {a : Int} (h0 : 0 < a) (hl : a ≤ ys.length) : 0 ≤ parF ys a ∧ parF ys a < a := by
  have hlt : (a - 1).toNat < ys.length := by omega
  have e : ys[(a - 1).toNat]? = some ys[(a - 1).toNat] := List.getElem?_eq_getElem hlt
  have := ok _ _ e
  unfold parF
  rw [e, Option.getD_some]
  omega
theorem U_cons {a : Int} (h0 : 0 < a) (hl : a ≤ ys.length) : upF ys a = a :: upF ys (parF ys a) := by
  have hlt : (a - 1).toNat < ys.length := by omega
  have e : ys[(a - 1).toNat]? = some ys[(a - 1).toNat] := List.getElem?_eq_getElem hlt
  have := upF_step ok h0 hl e
  rw [this]
  unfold parF
  rw [e, Option.getD_some]
omit ok in
theorem U_zero : upF ys 0 = [0] := rfl
theorem U_head (a : Int) (h0 : 0 ≤ a) (hl : a ≤ ys.length) : ∃ t, upF ys a = a :: t := by
  by_cases h : 0 < a
  · exact ⟨_, U_cons ok h hl⟩
  · have : a = 0 := by omega
    subst this
    exact ⟨[], rfl⟩
theorem U_suffix : ∀ (x : List Int) (a c : Int) (t : List Int), 0 ≤ a → a ≤ ys.length → upF ys a = x ++ c :: t → c :: t = upF ys c ∧ 0 ≤ c ∧ c ≤ a
  | [], a, c, t, h0, hl, e => by
    obtain ⟨t', e'⟩ := U_head ok a h0 hl
    rw [e'] at e
    simp at e
    obtain ⟨rfl, rfl⟩ := e
    exact ⟨e'.symm, h0, by omega⟩
  | z :: x, a, c, t, h0, hl, e => by
    by_cases h : 0 < a
    · rw [U_cons ok h hl] at e
      simp at e
      obtain ⟨q1, q2⟩ := par_lt ok h hl
      obtain ⟨k1, k2, k3⟩ := U_suffix x (parF ys a) c t q1 (by omega) e.2
      exact ⟨k1, k2, by omega⟩
    · have : a = 0 := by omega
      subst this
      rw [U_zero] at e
      simp at e
theorem U_last : ∀ (k : Nat) (a : Int), a ≤ k → 0 ≤ a → a ≤ ys.length → ∃ z, upF ys a = z ++ [0]
  | 0, a, h, h0, _ => by
    have : a = 0 := by omega
    subst this
    exact ⟨[], rfl⟩
  | k + 1, a, h, h0, hl => by
    by_cases p : 0 < a
    · obtain ⟨q1, q2⟩ := par_lt ok p hl
      obtain ⟨z, hz⟩ := U_last k (parF ys a) (by omega) q1 (by omega)
      exact ⟨a :: z, by rw [U_cons ok p hl, hz]; rfl⟩
    · have : a = 0 := by omega
      subst this
      exact ⟨[], rfl⟩

/-- Where two ways to the root meet. -/
structure Meet (ys : List Int) (a b : Int) (x y : List Int) (c : Int) : Prop where
  ea : upF ys a = x ++ upF ys c
  eb : upF ys b = y ++ upF ys c
  c0 : 0 ≤ c
  cl : c ≤ ys.length
  ne : x = [] ∨ y = [] ∨ x.getLast? ≠ y.getLast?

omit ok in
theorem Meet.symm {a b c : Int} {x y : List Int} (m : Meet ys a b x y c) : Meet ys b a y x c := ⟨m.eb, m.ea, m.c0, m.cl, by
  rcases m.ne with h | h | h
  · exact .inr (.inl h)
  · exact .inl h
  · exact .inr (.inr fun q => h q.symm)⟩

omit ok in
theorem second_last {x : List Int} {c : Int} (h : 1 < (x ++ [c]).length) : (x ++ [c])[(x ++ [c]).length - 2]? = x.getLast? := by
  simp at h
  have : (x ++ [c]).length - 2 = x.length - 1 := by simp
  rw [this, List.getElem?_append_left (by omega), List.getLast?_eq_getElem?]

omit ok in
theorem trim_spec : ∀ (k : Nat) (x y : List Int) (c : Int), x.length ≤ k → ∃ x' y' c' t, x ++ [c] = x' ++ c' :: t ∧ y ++ [c] = y' ++ c' :: t ∧ trim k (x ++ [c]) (y ++ [c]) = (x' ++ [c'], y' ++ [c']) ∧ (x' = [] ∨ y' = [] ∨ x'.getLast? ≠ y'.getLast?)
  | 0, x, y, c, h => by
    have : x = [] := List.eq_nil_of_length_eq_zero (by omega)
    exact ⟨x, y, c, [], rfl, rfl, rfl, .inl this⟩
  | k + 1, x, y, c, h => by
    unfold trim
    by_cases hc : 1 < (x ++ [c]).length ∧ 1 < (y ++ [c]).length ∧ (x ++ [c])[(x ++ [c]).length - 2]? = (y ++ [c])[(y ++ [c]).length - 2]?
    · rw [if_pos hc]
      obtain ⟨h1, h2, h3⟩ := hc
      rw [second_last h1, second_last h2] at h3
      simp at h1 h2
      obtain ⟨x1, d, rfl⟩ : ∃ x1 d, x = x1 ++ [d] := ⟨x.dropLast, x.getLast (by intro q; simp [q] at h1), (List.dropLast_concat_getLast _).symm⟩
      obtain ⟨y1, e, rfl⟩ : ∃ y1 e, y = y1 ++ [e] := ⟨y.dropLast, y.getLast (by intro q; simp [q] at h2), (List.dropLast_concat_getLast _).symm⟩
      simp at h3
      subst h3
      rw [List.dropLast_concat, List.dropLast_concat]
      obtain ⟨x', y', c', t, e1, e2, e3, e4⟩ := trim_spec k x1 y1 d (by simp at h; omega)
      exact ⟨x', y', c', t ++ [c], by rw [e1]; simp, by rw [e2]; simp, e3, e4⟩
    · rw [if_neg hc]
      refine ⟨x, y, c, [], rfl, rfl, rfl, ?_⟩
      by_cases h1 : x = []
      · exact .inl h1
      · by_cases h2 : y = []
        · exact .inr (.inl h2)
        · refine .inr (.inr fun q => hc ?_)
          have l1 : 0 < x.length := by cases x with | nil => exact absurd rfl h1 | cons => simp
          have l2 : 0 < y.length := by cases y with | nil => exact absurd rfl h2 | cons => simp
          have g1 : 1 < (x ++ [c]).length := by simp; omega
          have g2 : 1 < (y ++ [c]).length := by simp; omega
          exact ⟨g1, g2, by rw [second_last g1, second_last g2, q]⟩

/-- The way, by where they meet. -/
theorem path_meet (h7 : ys.length ≤ 7) {a b : Int} (a0 : 0 ≤ a) (al : a ≤ ys.length) (b0 : 0 ≤ b) (bl : b ≤ ys.length) : ∃ x y c, Meet ys a b x y c ∧ pathF ys a b = x ++ c :: y.reverse := by
  obtain ⟨z, hz⟩ := U_last ok a.toNat a (by omega) a0 al
  obtain ⟨u, hu⟩ := U_last ok b.toNat b (by omega) b0 bl
  have la := (upN_len a.toNat ys a).2
  change (upF ys a).length ≤ _ at la
  rw [hz] at la
  simp at la
  obtain ⟨x, y, c, t, e1, e2, e3, e4⟩ := trim_spec 9 z u 0 (by omega)
  obtain ⟨k1, k2, k3⟩ := U_suffix ok x a c t a0 al (by rw [hz, e1])
  refine ⟨x, y, c, ⟨by rw [hz, e1, k1], by rw [hu, e2, k1], k2, by omega, e4⟩, ?_⟩
  unfold pathF
  rw [hz, hu, e3]
  simp

theorem U_inj {a b : Int} (a0 : 0 ≤ a) (al : a ≤ ys.length) (b0 : 0 ≤ b) (bl : b ≤ ys.length) (h : upF ys a = upF ys b) : a = b := by
  obtain ⟨t, e⟩ := U_head ok a a0 al
  obtain ⟨u, e'⟩ := U_head ok b b0 bl
  rw [e, e'] at h
  simp at h
  exact h.1

theorem Meet.uniq {a b c c2 : Int} {x y x2 y2 : List Int} (m : Meet ys a b x y c) (m2 : Meet ys a b x2 y2 c2) : x = x2 ∧ y = y2 ∧ c = c2 := by
  have e1 := m.ea.symm.trans m2.ea
  have e2 := m.eb.symm.trans m2.eb
  -- the shorter rest is an end of the longer one
  have key : ∀ {x y x2 y2 : List Int} {c c2 : Int}, x ++ upF ys c = x2 ++ upF ys c2 → y ++ upF ys c = y2 ++ upF ys c2 → x2.length ≤ x.length → (x = [] ∨ y = [] ∨ x.getLast? ≠ y.getLast?) → x = x2 := by
    intro x y x2 y2 c c2 e1 e2 hl hne
    obtain ⟨z, hz⟩ : ∃ z, x = x2 ++ z := by
      have : x2 <+: x ++ upF ys c := ⟨upF ys c2, e1.symm⟩
      exact (List.prefix_of_prefix_length_le this (List.prefix_append _ _) hl).imp fun _ q => q.symm
    subst hz
    rw [List.append_assoc, List.append_cancel_left_eq] at e1
    rw [← e1, ← List.append_assoc, List.append_cancel_right_eq] at e2
    subst e2
    cases z with
    | nil => simp
    | cons d r =>
      exfalso
      rcases hne with h | h | h
      · simp at h
      · simp at h
      · apply h; simp [List.getLast?_append, List.getLast?_cons]
  have hx : x = x2 := by
    rcases Nat.le_total x2.length x.length with h | h
    · exact key e1 e2 h m.ne
    · exact (key e1.symm e2.symm h m2.ne).symm
  subst hx
  rw [List.append_cancel_left_eq] at e1
  have hc := U_inj ok m.c0 m.cl m2.c0 m2.cl e1
  subst hc
  rw [List.append_cancel_right_eq] at e2
  exact ⟨rfl, e2, rfl⟩

theorem path_of (h7 : ys.length ≤ 7) {a b c : Int} {x y : List Int} (a0 : 0 ≤ a) (al : a ≤ ys.length) (b0 : 0 ≤ b) (bl : b ≤ ys.length) (m : Meet ys a b x y c) : pathF ys a b = x ++ c :: y.reverse := by
  obtain ⟨x2, y2, c2, m2, e⟩ := path_meet ok h7 a0 al b0 bl
  obtain ⟨rfl, rfl, rfl⟩ := m.uniq ok m2
  exact e

theorem path_symm (h7 : ys.length ≤ 7) {a b : Int} (a0 : 0 ≤ a) (al : a ≤ ys.length) (b0 : 0 ≤ b) (bl : b ≤ ys.length) : pathF ys b a = (pathF ys a b).reverse := by
  obtain ⟨x, y, c, m, e⟩ := path_meet ok h7 a0 al b0 bl
  rw [e, path_of ok h7 b0 bl a0 al m.symm]
  simp

theorem path_mem (h7 : ys.length ≤ 7) {a b v : Int} (a0 : 0 ≤ a) (al : a ≤ ys.length) (b0 : 0 ≤ b) (bl : b ≤ ys.length) (h : v ∈ pathF ys a b) : 0 ≤ v ∧ v ≤ ys.length := by
  have mem : ∀ {a : Int}, 0 ≤ a → a ≤ ys.length → v ∈ upF ys a → 0 ≤ v ∧ v ≤ ys.length := by
    intro a a0 al hv
    obtain ⟨s, t, e⟩ := List.append_of_mem hv
    obtain ⟨_, q1, q2⟩ := U_suffix ok s a v t a0 al e
    exact ⟨q1, by omega⟩
  obtain ⟨x, y, c, m, e⟩ := path_meet ok h7 a0 al b0 bl
  rw [e] at h
  simp at h
  rcases h with h | h | h
  · exact mem a0 al (by rw [m.ea]; simp [h])
  · subst h; exact ⟨m.c0, m.cl⟩
  · exact mem b0 bl (by rw [m.eb]; simp [h])

/-- A way's beginning is the way to there. -/
theorem path_left (h7 : ys.length ≤ 7) {a b v : Int} {l1 l2 : List Int} (a0 : 0 ≤ a) (al : a ≤ ys.length) (b0 : 0 ≤ b) (bl : b ≤ ys.length) (h : pathF ys a b = l1 ++ v :: l2) : pathF ys a v = l1 ++ [v] := by
  obtain ⟨v0, vl⟩ := path_mem ok h7 a0 al b0 bl (v := v) (by rw [h]; simp)
  obtain ⟨x, y, c, m, e⟩ := path_meet ok h7 a0 al b0 bl
  rw [h] at e
  obtain ⟨tc, hc⟩ := U_head ok c m.c0 m.cl
  rcases List.append_eq_append_iff.1 e with ⟨z, e1, e2⟩ | ⟨z, e1, e2⟩
  · -- x = l1 ++ z, v :: l2 = z ++ c :: y.reverse
    cases z with
    | nil =>
      simp at e1 e2
      obtain ⟨rfl, rfl⟩ := e2
      subst e1
      rw [path_of ok h7 a0 al v0 vl (x := x) (y := []) (c := v) ⟨m.ea, by simp, m.c0, m.cl, .inr (.inl rfl)⟩]
      simp
    | cons d z =>
      simp at e2
      obtain ⟨rfl, e2⟩ := e2
      subst e1
      have hs : upF ys a = l1 ++ v :: (z ++ upF ys c) := by rw [m.ea]; simp
      obtain ⟨k1, _, _⟩ := U_suffix ok l1 a v _ a0 al hs
      rw [path_of ok h7 a0 al v0 vl (x := l1) (y := []) (c := v) ⟨by rw [hs, k1], by simp, v0, vl, .inr (.inl rfl)⟩]
      simp
  · -- l1 = x ++ z, c :: y.reverse = z ++ v :: l2
    cases z with
    | nil =>
      simp at e1 e2
      obtain ⟨rfl, rfl⟩ := e2
      subst e1
      rw [path_of ok h7 a0 al m.c0 m.cl (x := l1) (y := []) (c := c) ⟨m.ea, by simp, m.c0, m.cl, .inr (.inl rfl)⟩]
      simp
    | cons d z =>
      simp at e2
      obtain ⟨rfl, e2⟩ := e2
      subst e1
      have hy : y = l2.reverse ++ v :: z.reverse := by
        have := congrArg List.reverse e2
        simpa using this
      have hs : upF ys b = l2.reverse ++ v :: (z.reverse ++ upF ys c) := by rw [m.eb, hy]; simp
      obtain ⟨k1, _, _⟩ := U_suffix ok l2.reverse b v _ b0 bl hs
      rw [path_of ok h7 a0 al v0 vl (x := x) (y := v :: z.reverse) (c := c) ⟨m.ea, by rw [← k1]; simp, m.c0, m.cl, by
        rcases m.ne with q | q | q
        · exact .inl q
        · rw [hy] at q; simp at q
        · refine .inr (.inr ?_)
          rw [hy, List.getLast?_append, List.getLast?_cons] at q
          rw [List.getLast?_cons]
          simpa using q⟩]
      simp
/-- A way's end is the way from there. -/
theorem path_right (h7 : ys.length ≤ 7) {a b v : Int} {l1 l2 : List Int} (a0 : 0 ≤ a) (al : a ≤ ys.length) (b0 : 0 ≤ b) (bl : b ≤ ys.length) (h : pathF ys a b = l1 ++ v :: l2) : pathF ys v b = v :: l2 := by
  obtain ⟨v0, vl⟩ := path_mem ok h7 a0 al b0 bl (v := v) (by rw [h]; simp)
  have e : pathF ys b a = l2.reverse ++ v :: l1.reverse := by rw [path_symm ok h7 a0 al b0 bl, h]; simp
  have := path_left ok h7 b0 bl a0 al e
  rw [path_symm ok h7 b0 bl v0 vl, this]
  simp

theorem path_self (h7 : ys.length ≤ 7) {a : Int} (a0 : 0 ≤ a) (al : a ≤ ys.length) : pathF ys a a = [a] := by
  rw [path_of ok h7 a0 al a0 al (x := []) (y := []) (c := a) ⟨by simp, by simp, a0, al, .inl rfl⟩]
  simp

theorem path_cons (h7 : ys.length ≤ 7) {a b : Int} (a0 : 0 ≤ a) (al : a ≤ ys.length) (b0 : 0 ≤ b) (bl : b ≤ ys.length) : ∃ t, pathF ys a b = a :: t := by
  obtain ⟨x, y, c, m, e⟩ := path_meet ok h7 a0 al b0 bl
  obtain ⟨t, ht⟩ := U_head ok a a0 al
  cases x with
  | nil =>
    have : c = a := U_inj ok m.c0 m.cl a0 al (by have := m.ea; simpa using this.symm)
    subst this
    exact ⟨_, by rw [e]; rfl⟩
  | cons d x =>
    have := m.ea
    rw [ht] at this
    simp at this
    rw [e, this.1]
    exact ⟨_, rfl⟩
theorem path_one (h7 : ys.length ≤ 7) {a b : Int} (a0 : 0 ≤ a) (al : a ≤ ys.length) (b0 : 0 ≤ b) (bl : b ≤ ys.length) (h : pathF ys a b = [a]) : a = b := by
  have := path_symm ok h7 a0 al b0 bl
  rw [h] at this
  obtain ⟨t, ht⟩ := path_cons ok h7 b0 bl a0 al
  rw [ht] at this
  simp at this
  exact this.1.symm
theorem path_ne (h7 : ys.length ≤ 7) {a b : Int} (a0 : 0 ≤ a) (al : a ≤ ys.length) (b0 : 0 ≤ b) (bl : b ≤ ys.length) (h : a ≠ b) : ∃ v t, pathF ys a b = a :: v :: t := by
  obtain ⟨t, ht⟩ := path_cons ok h7 a0 al b0 bl
  cases t with
  | nil => exact absurd (path_one ok h7 a0 al b0 bl ht) h
  | cons v t => exact ⟨v, t, ht⟩

/-- Next to one another: the one is the other's parent. -/
theorem path_two (h7 : ys.length ≤ 7) {a v : Int} (a0 : 0 ≤ a) (al : a ≤ ys.length) (v0 : 0 ≤ v) (vl : v ≤ ys.length) : pathF ys a v = [a, v] ↔ (0 < a ∧ v = parF ys a) ∨ (0 < v ∧ a = parF ys v) := by
  constructor
  · intro h
    obtain ⟨x, y, c, m, e⟩ := path_meet ok h7 a0 al v0 vl
    rw [h] at e
    cases x with
    | nil =>
      cases y with
      | nil => simp at e
      | cons d y =>
        simp at e
        obtain ⟨rfl, e⟩ := e
        have hy : y = [] := by
          have := congrArg List.length e
          simp at this
          exact this
        subst hy
        simp at e
        subst e
        have := m.eb
        have hp : 0 < v := by
          by_cases p : 0 < v
          · exact p
          · have : v = 0 := by omega
            subst this
            rw [U_zero] at this
            obtain ⟨t, ht⟩ := U_head ok a a0 al
            rw [ht] at this
            simp at this
        rw [U_cons ok hp vl] at this
        simp at this
        obtain ⟨p1, p2⟩ := par_lt ok hp vl
        exact .inr ⟨hp, (U_inj ok p1 (by omega) a0 al this).symm⟩
    | cons d x =>
      simp at e
      obtain ⟨rfl, e⟩ := e
      have hx : x = [] ∧ y = [] := by
        have := congrArg List.length e
        simp at this
        exact ⟨List.eq_nil_of_length_eq_zero (by omega), List.eq_nil_of_length_eq_zero (by omega)⟩
      obtain ⟨rfl, rfl⟩ := hx
      simp at e
      subst e
      have := m.ea
      have hp : 0 < a := by
        by_cases p : 0 < a
        · exact p
        · have : a = 0 := by omega
          subst this
          rw [U_zero] at this
          obtain ⟨t, ht⟩ := U_head ok v v0 vl
          rw [ht] at this
          simp at this
      rw [U_cons ok hp al] at this
      simp at this
      obtain ⟨p1, p2⟩ := par_lt ok hp al
      exact .inl ⟨hp, (U_inj ok p1 (by omega) v0 vl this).symm⟩
  · rintro (⟨hp, rfl⟩ | ⟨hp, rfl⟩)
    · rw [path_of ok h7 a0 al v0 vl (x := [a]) (y := []) (c := parF ys a) ⟨by rw [U_cons ok hp al]; rfl, by simp, v0, vl, .inr (.inl rfl)⟩]
      simp
    · rw [path_of ok h7 a0 al v0 vl (x := []) (y := [v]) (c := parF ys v) ⟨by simp, by rw [U_cons ok hp vl]; rfl, a0, al, .inl rfl⟩]
      simp
end
end Go.Proofs.Ytebkohdmoaginaa
