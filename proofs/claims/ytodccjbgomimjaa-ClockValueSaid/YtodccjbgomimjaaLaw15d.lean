/-
  Law ClockValue: the walk's end.
-/
import Derived.Test.YtodccjbgomimjaaLaw15c
set_option linter.unusedVariables false
set_option linter.unusedSimpArgs false
namespace Go.Proofs.Ytodccjbgomimjaa
open Go.Ab

section
variable {X : XTab}

theorem valueEnd (hX : OnlyKnown X) (hk : X F_precentorlaw15_known [] = some (.bool true)) {Q : AVal → Heap → Prop} (hQ : ∀ h', Q (.bool true) h') {h : Heap} {t : T} {bf k : Nat} (t5 : t 5 = .ptr bf 0) (f : Feed h bf k) (hK : k + 9 < 2 ^ 62) :
    Tells (fun m => J_precentorlaw15_ClockValue_2 Try.prog (acallX Try.prog X m) m (retK Try.prog [.tmp 4]) t h) Q := by
  unfold J_precentorlaw15_ClockValue_2
  simp [t5]
  refine Tells.bind (Stamps hX f hK) ?_
  rintro v h1 ⟨xs, go, wr, hl, hd, sm, x1, f1⟩
  try simp
  refine Tells.bind (known_X hk h1) ?_
  rintro _ _ ⟨rfl, rfl⟩
  simp [bldR, fillR, splice]
  refine Tells.bind (clock_Due hX (Sl.nil (r := pairR)) (by simp) go.1 (by omega)) ?_
  rintro _ h2 ⟨rfl, x2⟩
  simp [hd]
  exact Tells.ok (hQ _)

theorem value (hX : OnlyKnown X) (hk : X F_precentorlaw15_known [] = some (.bool true)) {h : Heap} {u l : AVal} {ps ls : List Int} (ou : RawInts h u ps) (ol : RawInts h l ls) :
    Tells (fun m => acallX Try.prog X m F_precentorlaw15_ClockValue [u, l] h) fun a h' => a = .bool true := by
  refine R_precentorlaw15_ClockValue _ _ (hX _ _ rfl) ?_
  refine Tells.prot fun Q' hQ => ?_
  unfold S_precentorlaw15_ClockValue
  have hmin : (if (8 : Int) < ps.length then 8 else (ps.length : Int)) = ((min ps.length 8 : Nat) : Int) := by split <;> omega
  obtain ⟨u1, q1, s1, _⟩ := ou.sl.takeR (n := 1) rfl (hi := min ps.length 8) (by omega)
  simp [ou.sl.len, hmin, q1, bldR, fillR, splice, ol.sl.known, ol.sl.cells]
  refine Tells.box rfl rfl fun h1 bf f1 x1 l1 => ?_
  have hlen : (ps.take (min ps.length 8)).length ≤ 8 := by simp; omega
  generalize ps.take (min ps.length 8) = qs at s1 hlen
  try simp
  refine Tells.bind (clock_New hX (s1.ext x1) (by omega)) ?_
  rintro _ h2 ⟨v, rfl, s2, x2⟩
  try simp
  refine Tells.new fun h3 bc o3 x3 l3 => ?_
  try simp
  refine Tells.stN o3 (by rfl) (by rfl) (by simp [s2.one]) (by rfl) fun h4 o4 x4 => ?_
  have f0 := RawInts.feed (ol.ext x1) f1
  have hfc : bf ≠ bc := by have := f0.lt; have := x2.next; omega
  have f4 := ((f0.e x2).e x3).ext x4 (by simpa using hfc)
  have s4 := (s2.ext x3).ext x4
  have u4 := (((s1.ext x1).ext x2).ext x3).ext x4
  have ln := newS_length qs
  try simp
  refine Tells.bind (valueNew hX (u := u1) (pf := .ptr bf 0) (by simp) (by simp) (by simp) (by simp) o4 s4 u4 hlen) ?_
  rintro ⟨ex, t5⟩ h5 ⟨rfl, e5, e6, x5⟩
  simp only at e5 e6
  have o5 := o4.e x5
  have s5 := s4.ext x5
  simp [J_precentorlaw15_ClockValue_0, e6, o5.1]
  refine Tells.bind (clock_Own hX s5 (by omega)) ?_
  rintro o h6 ⟨g6, wr6, x6⟩
  try simp
  refine Tells.bind (valueOwn hX (o := o) (pf := .ptr bf 0) (by simp [e5]) (by simp [e6]) (by simp) (by simp) (o5.e x6) (s5.ext x6) (newS_fresh qs) (by omega) g6.1) ?_
  rintro ⟨ex, t7⟩ h7 ⟨rfl, k5, k6, k8, x7⟩
  simp only at k5 k6 k8
  have x57 := x6.trans x7
  have o7 := o5.e x57
  have oo7 := g6.1.ext x7
  have w7 := wr6.ext x7
  have f7 := (f4.e x5).e x57
  have go : ∀ (t' : T) h', t' 5 = .ptr bf 0 → Feed h' bf 0 → Tells (fun m => J_precentorlaw15_ClockValue_2 Try.prog (acallX Try.prog X m) m (retK Try.prog [.tmp 4]) t' h') Q' :=
    fun t' h' e f' => valueEnd hX hk (fun h' => hQ _ _ rfl) e f' (by omega)
  unfold J_precentorlaw15_ClockValue_1
  simp [k8, oo7.len]
  refine Tells.cb (fun hc => ?_) (fun hc => ?_)
  · simp at hc
    obtain ⟨a, hdi⟩ : ∃ d, ((newS qs).map (·.1))[0]? = some d := ⟨_, List.getElem?_eq_getElem (by simpa using hc)⟩
    obtain ⟨b, p, B, c, k1, el, rep, pk⟩ := oo7.poke (n := 1) rfl (fun q => q) w7 x57 hdi
    have rep : c = [I a] := rep
    subst rep
    obtain ⟨h8, st8, x8, _, sl8, nx8, _, ob8⟩ := pk 0 (I (-5)) (-5) (by omega) (by rfl) (by rfl) (by rfl)
    have k1' : ixsR 1 o (I 0) = some (.ptr b p) := by simpa using k1
    have ld := el.cell0 (by simp)
    have st8' : stR 1 h7 (.ptr b p) (I (-5)) = .val aUndef h8 := by simpa using st8
    have o8 := o5.e x8
    have s8 := s5.ext x8
    simp [k8, k1', el.get, ld, st8', k6, o8.1]
    refine Tells.bind (clock_Own hX s8 (by omega)) ?_
    rintro o9 h9 ⟨g9, _, x9⟩
    obtain ⟨b9, p9, B9, m1, m2, m3⟩ := g9.1.atI hdi
    have m1' : ixsR 1 o9 (I 0) = some (.ptr b9 p9) := by simpa using m1
    simp [m1', m2, m3]
    exact go _ _ (by simp [k5]) (((f4.e x5).e x8).e x9)
  · exact go _ _ (by simp [k5]) f7

end
end Go.Proofs.Ytodccjbgomimjaa
