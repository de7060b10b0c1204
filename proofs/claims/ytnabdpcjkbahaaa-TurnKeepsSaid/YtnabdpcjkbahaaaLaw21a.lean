/-
  Law TurnKeeps: the walk.
-/
import Derived.Test.YtnabdpcjkbahaaaTurn0
import Derived.Test.YtnabdpcjkbahaaaRow0
import Derived.Test.YtnabdpcjkbahaaaSprecentorlaw21
set_option linter.unusedVariables false
set_option linter.unusedSimpArgs false
namespace Go.Proofs.Ytnabdpcjkbahaaa
open Go.Ab

section
variable {X : XTab}

theorem known_X {k : FuncId} (hk : X k [] = some (.bool true)) (h : Heap) : Tells (fun q => acallX Try.prog X q k [] h) fun v h' => v = .bool true ∧ h' = h := by
  refine Tells.later ?_
  simp only [acallX, hk]
  exact Tells.ok ⟨rfl, rfl⟩
theorem RawInts.feed {h : Heap} {v : AVal} {xs : List Int} {bf : Nat} (o : RawInts h v xs) (ob : Ob h bf [v, I 0]) : Feed h bf 0 := ⟨v, 0, xs, ob, by omega, by omega, o.sl, o.small⟩
theorem Feed.out {h : Heap} {bf k : Nat} {α : Type} {r : Rp α} {v : AVal} {xs : List α} (f : Feed h bf k) (o : Sl r h v xs) : bf ∉ v.blks := fun hb => by
  have := (o.blk bf hb).1
  rw [f.m] at this; cases this
theorem ptr_nil {t e : TypeId} (hu : Try.prog.underlying t = some (.pointer e)) (o1 o2 : Operand) (b p : Nat) : aBin Try.prog .eql t o1 o2 (.ptr b p) .nilp = some (.bool false) := by
  simp only [aBin, AVal.toV, aNilCmp, hu, nilRes]

/-- What holds after i rounds. -/
structure TInv (i : Nat) (t : T) (g : Heap) (bf bt : Nat) (inn out ep : Int) (st rd : Bool) (pv : AVal) (nums : List Int) : Prop where
  t3 : t 3 = .ptr bf 0
  t4 : t 4 = .ptr bt 0
  t6 : t 6 = I inn
  t7 : t 7 = I out
  t8 : t 8 = I ep
  ne : bf ≠ bt
  o : TurnO g bt ep st rd pv nums
  f : Feed g bf i
  len : (nums.length : Int) = inn - out
  num : ∀ (j : Nat) x, nums[j]? = some x → x = out + 1 + j
  lo : 0 ≤ out ∧ inn ≤ i ∧ 0 ≤ ep ∧ ep ≤ i

theorem TurnO.g {h : Heap} {bt : Nat} {ep : Int} {st rd : Bool} {pv : AVal} {nums : List Int} (o : TurnO h bt ep st rd pv nums) : Gl chR Heap.empty h pv nums := by obtain ⟨_, _, g⟩ := o; exact g

theorem keepsLoop {h : Heap} {t : T} {pv t3 t4 t6 t8 t9 : AVal} {out : Int} {nums : List Int} (e3 : t 3 = t3) (e4 : t 4 = t4) (e6 : t 6 = t6) (e7 : t 7 = I out) (e8 : t 8 = t8) (e9 : t 9 = t9) (e13 : t 13 = pv) (e15 : t 15 = I 0) (sl : Sl chR h pv nums) (hl : nums.length ≤ 1000) (ho : 0 ≤ out ∧ out ≤ 1000) (num : ∀ (j : Nat) x, nums[j]? = some x → x = out + 1 + j) :
    Tells (fun m => loopN (L_precentorlaw21_TurnKeeps_10 Try.prog (acallX Try.prog X m) m) m t h) fun p g => p.1 = .exit 3 ∧ g = h ∧ p.2 3 = t3 ∧ p.2 4 = t4 ∧ p.2 6 = t6 ∧ p.2 7 = I (out + nums.length) ∧ p.2 8 = t8 ∧ p.2 9 = t9 := by
  refine Tells.loop (fun n t g => ∃ k : Nat, t 3 = t3 ∧ t 4 = t4 ∧ t 6 = t6 ∧ t 7 = I (out + k) ∧ t 8 = t8 ∧ t 9 = t9 ∧ t 13 = pv ∧ t 15 = I k ∧ k + n = nums.length ∧ g = h) ?_ nums.length _ _ ?_
  · rintro n t g ⟨k, e3, e4, e6, e7, e8, e9, e13, e15, hk, rfl⟩
    refine Tells.prot fun Q2 hQ2 => ?_
    unfold L_precentorlaw21_TurnKeeps_10
    simp [e15, e13, sl.len]
    refine Tells.cb (fun hc => ?_) (fun hc => ?_)
    · simp at hc
      obtain ⟨x, hdi⟩ : ∃ d, nums[k]? = some d := ⟨_, List.getElem?_eq_getElem hc⟩
      obtain ⟨b, p, B, c, q1, q2, q3⟩ := sl.at (n := 5) rfl (i := (k : Int)) (by omega) (by simpa using hdi)
      have q3 : c = [.bool false, I 1, I 0, I x, .nils] := q3
      subst q3
      have q4 := q2.cell (k := 3) (by simp)
      have hx := num k x hdi
      have w : IntKind.i64.wrap ((k : Int) + 1) = k + 1 := wrap_id (by omega) (by omega)
      have w2 : IntKind.i64.wrap (out + k + 1) = out + k + 1 := wrap_id (by omega) (by omega)
      have hx2 : x = out + k + 1 := by omega
      have q5 : B[p + 1 + 2]? = some (I (out + k + 1)) := by rw [← hx2]; exact q4
      simp [J_precentorlaw21_TurnKeeps_11, e7, w2, e13, e15, q1, q2.get, q5, J_precentorlaw21_TurnKeeps_12, w]
      exact Tells.ok (hQ2 _ _ (.inl ⟨rfl, n - 1, by omega, k + 1, by simp [e3], by simp [e4], by simp [e6], by simp; omega, by simp [e8], by simp [e9], by simp [e13], by simp, by omega, rfl⟩))
    · simp at hc
      have : k = nums.length := by omega
      subst this
      exact Tells.ok (hQ2 _ _ (.inr ⟨by simp, rfl, rfl, by simp [e3], by simp [e4], by simp [e6], by simp [e7], by simp [e8], by simp [e9]⟩))
  · exact ⟨0, e3, e4, e6, by simpa using e7, e8, e9, e13, by simpa using e15, by omega, rfl⟩

theorem keepsStep (hX : OnlyKnown X) {Q : Ex × T → Heap → Prop} {i : Nat} {t : T} {g : Heap} {bf bt : Nat} {inn out ep : Int} {st rd : Bool} {pv : AVal} {nums : List Int} (t9 : t 9 = I i) (hi : i < 40) (o : TInv i t g bf bt inn out ep st rd pv nums)
    (hQ : ∀ (t' : T) g' inn' out' ep' st' rd' pv' nums', t' 9 = I ((i + 1 : Nat) : Int) → TInv (i + 1) t' g' bf bt inn' out' ep' st' rd' pv' nums' → Q (.normal, t') g') :
    Tells (fun m => L_precentorlaw21_TurnKeeps_2 Try.prog (acallX Try.prog X m) m t g) Q := by
  have lo := o.lo
  have len := o.len
  have wi : IntKind.i64.wrap ((i : Int) + 1) = i + 1 := wrap_id (by omega) (by omega)
  have win : IntKind.i64.wrap (inn + 1) = inn + 1 := wrap_id (by omega) (by omega)
  have wep : IntKind.i64.wrap (ep + 1) = ep + 1 := wrap_id (by omega) (by omega)
  have next : ∀ (t' : T) g' inn' out' ep' st' rd' pv' nums', t' 9 = I i → TInv (i + 1) t' g' bf bt inn' out' ep' st' rd' pv' nums' →
      Tells (fun m => J_precentorlaw21_TurnKeeps_4 Try.prog (acallX Try.prog X m) m okK t' g') Q := by
    intro t' g' inn' out' ep' st' rd' pv' nums' e9 o'
    simp [J_precentorlaw21_TurnKeeps_4, e9, wi]
    exact Tells.ok (hQ _ _ inn' out' ep' st' rd' pv' nums' (by simp) ⟨by simp [o'.t3], by simp [o'.t4], by simp [o'.t6], by simp [o'.t7], by simp [o'.t8], o'.ne, o'.o, o'.f, o'.len, o'.num, o'.lo⟩)
  have tail : ∀ (t' : T) g' inn' out' ep' st' rd' pv' nums', t' 9 = I i → TInv (i + 1) t' g' bf bt inn' out' ep' st' rd' pv' nums' →
      Tells (fun m => J_precentorlaw21_TurnKeeps_5 Try.prog (acallX Try.prog X m) m (blkK 1 (sqK (J_precentorlaw21_TurnKeeps_4 Try.prog (acallX Try.prog X m) m okK) okK)) t' g') Q := by
    intro t' g' inn' out' ep' st' rd' pv' nums' e9 o'
    have lo' := o'.lo
    have len' := o'.len
    have wd : IntKind.i64.wrap (inn' - out') = inn' - out' := wrap_id (by omega) (by omega)
    simp [J_precentorlaw21_TurnKeeps_5, o'.t4]
    refine Tells.bind (turn_Pending hX o'.o) ?_
    rintro _ g' ⟨rfl, rfl⟩
    simp [o'.t6, o'.t7, wd, len', o'.t4]
    refine Tells.bind (turn_Epoch hX o'.o) ?_
    rintro _ g' ⟨rfl, rfl⟩
    simp [o'.t8]
    exact next _ _ inn' out' ep' st' rd' pv' nums' (by simp [e9]) ⟨by simp [o'.t3], by simp [o'.t4], by simp [o'.t6], by simp [o'.t7], by simp [o'.t8], o'.ne, o'.o, o'.f, o'.len, o'.num, o'.lo⟩
  unfold L_precentorlaw21_TurnKeeps_2
  simp [t9, show (i : Int) < 40 by omega, J_precentorlaw21_TurnKeeps_3, o.t3]
  refine Tells.bind (Next hX 4 ⟨by omega, by omega⟩ o.f (by omega)) ?_
  rintro _ h1 ⟨c, rfl, c0, c1, _, x1, f1⟩
  have c1 := c1 (by omega)
  have bfp := o.f.out o.o.g.1
  have o1 : TurnO h1 bt ep st rd pv nums := o.o.ext x1 (by simpa using Ne.symm o.ne) (fun b hb q => by simp at q; subst q; exact bfp hb)
  have bfp1 := f1.out o1.g.1
  have bfs : bf ∉ bt :: pv.blks := fun q => by
    rcases List.mem_cons.1 q with q | q
    · exact o.ne q
    · exact bfp1 q
  have hadd : ∀ t' : T, t' 3 = t 3 → t' 4 = t 4 → t' 6 = t 6 → t' 7 = t 7 → t' 8 = t 8 → t' 9 = t 9 → t' 83 = .bool true →
      Tells (fun m => J_precentorlaw21_TurnKeeps_6 Try.prog (acallX Try.prog X m) m (blkK 2 (sqK (J_precentorlaw21_TurnKeeps_5 Try.prog (acallX Try.prog X m) m (blkK 1 (sqK (J_precentorlaw21_TurnKeeps_4 Try.prog (acallX Try.prog X m) m okK) okK))) (blkK 1 (sqK (J_precentorlaw21_TurnKeeps_4 Try.prog (acallX Try.prog X m) m okK) okK)))) t' h1) Q := by
    intro t' e3 e4 e6 e7 e8 e9 e83
    simp [J_precentorlaw21_TurnKeeps_6, e83, e6, o.t6, win, e4, o.t4, bldR, fillR, splice]
    refine Tells.bind (turn_Add hX o1 (by omega) (inn + 1)) ?_
    rintro _ h2 ⟨rfl, ⟨pv', o2, _⟩, x2⟩
    simp
    refine tail _ _ (inn + 1) out ep st rd pv' (nums ++ [inn + 1]) (by simp [e9, t9]) ⟨by simp [e3, o.t3], by simp [e4, o.t4], by simp, by simp [e7, o.t7], by simp [e8, o.t8], o.ne, o2, f1.ext x2 bfs, by simp; omega, fun j x hj => ?_, by omega⟩
    rcases Nat.lt_or_ge j nums.length with q | q
    · rw [List.getElem?_append_left q] at hj; exact o.num j x hj
    · rw [List.getElem?_append_right q] at hj
      have : j - nums.length = 0 := by
        rcases Nat.eq_zero_or_pos (j - nums.length) with z | z
        · exact z
        · rw [List.getElem?_eq_none (by simp; omega)] at hj; cases hj
      rw [this] at hj
      simp at hj
      omega
  have hc : c = 0 ∨ c = 1 ∨ c = 2 ∨ c = 3 := by omega
  rcases hc with rfl | rfl | rfl | rfl
  · simp
    exact hadd _ (by simp) (by simp) (by simp) (by simp) (by simp) (by simp) (by simp)
  · simp
    exact hadd _ (by simp) (by simp) (by simp) (by simp) (by simp) (by simp) (by simp)
  · -- Begin
    have hgt : decide (out < inn) = decide (0 < nums.length) := by
      by_cases q : 0 < nums.length
      · simp [q]; omega
      · simp [q]; omega
    have fin : ∀ (t' : T) g', t' 3 = t 3 → t' 4 = t 4 → t' 6 = t 6 → t' 7 = t 7 → t' 8 = t 8 → t' 9 = t 9 → TurnO g' bt ep (st || decide (0 < nums.length)) rd pv nums → Ext [bt] h1 g' →
        Tells (fun m => J_precentorlaw21_TurnKeeps_5 Try.prog (acallX Try.prog X m) m (blkK 1 (sqK (J_precentorlaw21_TurnKeeps_4 Try.prog (acallX Try.prog X m) m okK) okK)) t' g') Q := by
      intro t' g' e3 e4 e6 e7 e8 e9 o2 x2
      exact tail _ _ inn out ep _ rd pv nums (by simp [e9, t9]) ⟨by simp [e3, o.t3], by simp [e4, o.t4], by simp [e6, o.t6], by simp [e7, o.t7], by simp [e8, o.t8], o.ne, o2, f1.ext x2 (by simpa using o.ne), len, o.num, by omega⟩
    by_cases q : out < inn
    · have q2 : 0 < nums.length := by omega
      simp [J_precentorlaw21_TurnKeeps_6, o.t6, o.t7, q, o.t4]
      refine Tells.bind (turn_Stopped hX o1) ?_
      rintro _ h1' ⟨rfl, rfl⟩
      cases st with
      | true =>
        simp [o.t4]
        refine Tells.bind (turn_Begin hX o1) ?_
        rintro _ h2 ⟨rfl, o2, x2⟩
        simp [Try.underlying4]
        exact fin _ _ (by simp) (by simp) (by simp) (by simp) (by simp) (by simp) o2 x2
      | false =>
        simp [o.t4]
        refine Tells.bind (turn_Begin hX o1) ?_
        rintro _ h2 ⟨rfl, o2, x2⟩
        simp [Try.underlying4, q2, o.t4]
        refine Tells.bind (turn_Stopped hX o2) ?_
        rintro _ h2 ⟨rfl, rfl⟩
        simp [q2]
        exact fin _ _ (by simp) (by simp) (by simp) (by simp) (by simp) (by simp) o2 x2
    · have q2 : ¬ 0 < nums.length := by omega
      simp [J_precentorlaw21_TurnKeeps_6, o.t6, o.t7, q, o.t4]
      refine Tells.bind (turn_Begin hX o1) ?_
      rintro _ h2 ⟨rfl, o2, x2⟩
      simp [Try.underlying4, q2]
      exact fin _ _ (by simp) (by simp) (by simp) (by simp) (by simp) (by simp) o2 x2
  · -- Open
    simp [J_precentorlaw21_TurnKeeps_6, o.t4]
    refine Tells.bind (turn_Stopped hX o1) ?_
    rintro _ h1 ⟨rfl, rfl⟩
    try simp [o.t4]
    refine Tells.bind (turn_Ready hX o1) ?_
    rintro _ h2 ⟨rfl, ⟨rd', o2⟩, x2⟩
    simp [o.t4, o.t8, wep]
    refine Tells.bind (turn_Open hX o2 (by omega)) ?_
    rintro _ h3 ⟨x3, ⟨rfl, rfl, o3⟩ | ⟨rfl, rfl, o3, s3⟩⟩
    · have f3 := (f1.ext x2 (by simpa using o.ne)).ext x3 (by simpa using o.ne)
      simp [extR, Try.underlying4, J_precentorlaw21_TurnKeeps_7]
      exact next _ _ inn out ep false rd' pv nums (by simp [t9]) ⟨by simp [o.t3], by simp [o.t4], by simp [o.t6], by simp [o.t7], by simp [o.t8], o.ne, o3, f3, len, o.num, by omega⟩
    · have f3 := (f1.ext x2 (by simpa using o.ne)).ext x3 (by simpa using o.ne)
      have fin : ∀ t' : T, t' 3 = t 3 → t' 4 = t 4 → t' 6 = t 6 → t' 7 = t 7 → t' 8 = t 8 → t' 9 = t 9 → t' 13 = pv → t' 14 = .bool true →
          Tells (fun m => J_precentorlaw21_TurnKeeps_7 Try.prog (acallX Try.prog X m) m (blkK 2 (sqK (J_precentorlaw21_TurnKeeps_5 Try.prog (acallX Try.prog X m) m (blkK 1 (sqK (J_precentorlaw21_TurnKeeps_4 Try.prog (acallX Try.prog X m) m okK) okK))) (blkK 1 (sqK (J_precentorlaw21_TurnKeeps_4 Try.prog (acallX Try.prog X m) m okK) okK)))) t' h3) Q := by
        intro t' e3 e4 e6 e7 e8 e9 e13 e14
        simp [J_precentorlaw21_TurnKeeps_7, e14, J_precentorlaw21_TurnKeeps_8, e8, o.t8, wep]
        refine Tells.bind (keepsLoop (pv := pv) (out := out) (nums := nums) (t3 := .ptr bf 0) (t4 := .ptr bt 0) (t6 := I inn) (t8 := I (ep + 1)) (t9 := I i) (by simp [e3, o.t3]) (by simp [e4, o.t4]) (by simp [e6, o.t6]) (by simp [e7, o.t7]) (by simp) (by simp [e9, t9]) (by simp [e13]) (by simp) s3 (by omega) (by omega) o.num) ?_
        rintro ⟨ex, t5⟩ h3' ⟨rfl, rfl, k3, k4, k6, k7, k8, k9⟩
        simp only at k3 k4 k6 k7 k8 k9
        have hout : out + (nums.length : Int) = inn := by omega
        rw [hout] at k7
        simp [J_precentorlaw21_TurnKeeps_9, k7, k6]
        exact tail _ _ inn inn (ep + 1) false false .nils [] (by simp [k9]) ⟨by simp [k3], by simp [k4], by simp [k6], by simp [k7], by simp [k8], o.ne, o3, f3, by simp, fun j x hj => by simp at hj, by omega⟩
      cases rd with
      | true =>
        simp [extR, Try.underlying4]
        exact fin _ (by simp) (by simp) (by simp) (by simp) (by simp) (by simp) (by simp) (by simp)
      | false =>
        simp [extR, Try.underlying4]
        exact fin _ (by simp) (by simp) (by simp) (by simp) (by simp) (by simp) (by simp) (by simp)

theorem keeps (hX : OnlyKnown X) (hk : X F_precentorlaw21_known [] = some (.bool true)) {h : Heap} {l : AVal} {ls : List Int} (ol : RawInts h l ls) :
    Tells (fun m => acallX Try.prog X m F_precentorlaw21_TurnKeeps [l] h) fun a h' => a = .bool true := by
  refine R_precentorlaw21_TurnKeeps _ (hX _ _ rfl) ?_
  refine Tells.prot fun Q' hQ => ?_
  unfold S_precentorlaw21_TurnKeeps
  simp [bldR, fillR, splice, ol.sl.known, ol.sl.cells]
  refine Tells.box rfl rfl fun h1 bf f1 x1 l1 => ?_
  try simp
  refine Tells.bind (turn_New hX h1) ?_
  rintro _ h2 ⟨bt, rfl, o2, x2, lt⟩
  have f2 := (RawInts.feed (ol.ext x1) f1).e x2
  have hne : bf ≠ bt := by have := f1.lt; omega
  simp [extR]
  refine Tells.bind (known_X hk h2) ?_
  rintro _ h2 ⟨rfl, rfl⟩
  simp [ptr_nil Try.underlying26, Try.underlying27, J_precentorlaw21_TurnKeeps_0]
  refine Tells.bind (Tells.loop (fun n t g => ∃ (i : Nat) (inn out ep : Int) (st rd : Bool) (pv : AVal) (nums : List Int), t 9 = I i ∧ i + n = 40 ∧ TInv i t g bf bt inn out ep st rd pv nums) (Q := fun p g => p.1 = .exit 0) ?_ 40 _ _ ?_) ?_
  · rintro n t g ⟨i, inn, out, ep, st, rd, pv, nums, t9, hi, o⟩
    refine Tells.prot fun Q2 hQ2 => ?_
    by_cases hc : i < 40
    · refine keepsStep hX t9 hc o fun t' g' inn' out' ep' st' rd' pv' nums' e9 o' => ?_
      exact hQ2 _ _ (.inl ⟨rfl, n - 1, by omega, i + 1, inn', out', ep', st', rd', pv', nums', e9, by omega, o'⟩)
    · unfold L_precentorlaw21_TurnKeeps_2
      simp [t9, show ¬ (i : Int) < 40 by omega]
      exact Tells.ok (hQ2 _ _ (.inr ⟨by simp, rfl⟩))
  · exact ⟨0, 0, 0, 0, false, false, .nils, [], by simp, by omega, ⟨by simp, by simp, by simp, by simp, by simp, hne, o2, f2, by simp, fun j x hj => by simp at hj, by omega⟩⟩
  · rintro ⟨ex, t⟩ g rfl
    simp [J_precentorlaw21_TurnKeeps_1]
    exact Tells.ok (hQ _ _ rfl)

end
end Go.Proofs.Ytnabdpcjkbahaaa
