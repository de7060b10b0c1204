/-
  Law BagTells: what Few and same tell; datagrams of the arguments.
-/
import Derived.Test.YthepnokmoaipfaaRBag
import Derived.Test.YthepnokmoaipfaaArg0
import Derived.Test.YthepnokmoaipfaaOps
import Derived.Test.YthepnokmoaipfaaLaw19a
set_option linter.unusedVariables false
set_option linter.unusedSimpArgs false
namespace Go.Proofs.Ythepnokmoaipfaa
open Go.Ab

/-- A datagram that is handed in. -/
def dgA : Rp Dgram := ⟨3, by decide, fun h cs d => ∃ v, cs = [I d.from_, I d.to_, v] ∧ SlZ byteR h v d.bytes, fun ⟨v, e, _⟩ => by rw [e]; rfl, fun ⟨v, e, s⟩ => by rw [e]; simp [s.one], fun ⟨v, e, s⟩ x => ⟨v, e, s.ext x⟩⟩

theorem bytes_cells : ∀ (l : List UInt8), aBytes (l.map fun b => AVal.int .u8 b.toNat) = some l
  | [] => rfl
  | b :: r => by simp [aBytes, bytes_cells r]
theorem bytes_flat {h : Heap} : ∀ {css : List (List AVal)} {l : List UInt8}, All2 (byteR.rep h) css l → css.flatten = l.map fun b => AVal.int .u8 b.toNat
  | [], [], _ => rfl
  | c :: css, b :: l, k => by
    have : c = [AVal.int .u8 b.toNat] := k.1
    rw [this, List.flatten_cons, bytes_flat k.2]; rfl
  | [], _ :: _, k => k.elim
  | _ :: _, [], k => k.elim
theorem kind_text : convKind Try.prog 26 9 = .toText := by kernel_rfl
theorem conv_text {h : Heap} {v : AVal} {l : List UInt8} (o : Sl byteR h v l) : aConv Try.prog h 26 9 v = .val (.str ⟨l.toArray⟩) h := by
  unfold aConv
  rw [kind_text]
  obtain ⟨css, s, a⟩ := o
  have hf := bytes_flat a
  rcases s with ⟨rfl, rfl⟩ | ⟨b, off, cap, sz, ex, B, rfl, h2, h3, h4, h5, h6, h7, h8⟩
  · have : l = [] := by cases l with
      | nil => rfl
      | cons => exact a.elim
    subst this; rfl
  · have h6' : off + css.length ≤ B.length := by simpa [byteR] using h6
    have h7' : (B.drop off).take css.length = css.flatten := by simpa [byteR] using h7
    simp only [Heap.cells, h4]
    rw [if_pos h6', h7', hf]
    simp only [bytes_cells]

section
variable {X : XTab}

theorem few (hX : OnlyKnown X) {v : AVal} {l : List UInt8} {h : Heap} (o : SlZ byteR h v l) (hl : l.length < 2 ^ 63) : Tells (fun q => acallX Try.prog X q F_precentorhand_Few [v, I 9] h) fun r h' => Sl byteR h' r (l.take 9) ∧ Ext [] h h' := by
  refine R_precentorhand_Few _ _ (hX _ _ rfl) ?_
  refine Tells.prot fun Q' hQ => ?_
  unfold S_precentorhand_Few
  try simp
  refine Tells.lit (r := byteR) (xs := []) (css := []) (by rfl) trivial (by rfl) (by rfl) (bsl0 1 h) fun va h1 g1 x1 bl1 => ?_
  have o1 := o.ext x1
  obtain ⟨v2, e2, s2, bl2⟩ := o1.takeR (n := 1) rfl (hi := min l.length 9) (Nat.min_le_left _ _)
  have hm : (if (9 : Int) < (l.length : Int) then (9 : Int) else (l.length : Int)) = ((min l.length 9 : Nat) : Int) := by split <;> omega
  obtain ⟨s', h', q1, q2, q3, q4, q5⟩ := g1.appNZ (n := 1) (by_ := 1) s2 (by rfl) (by simp; omega) (by decide) x1.next
  have ht : l.take (min l.length 9) = l.take 9 := by rw [List.take_eq_take_iff]; omega
  simp [o1.len, hm, e2, q1]
  refine Tells.ok (hQ _ _ ⟨?_, ?_⟩)
  · have := q2.1
    rw [ht] at this
    simpa using this
  · exact x1.then q3 fun b hb => by rw [bl1] at hb; simp at hb; right; omega

theorem dg_at {h : Heap} {v : AVal} {l : List Dgram} {d : Dgram} {i : Nat} (o : Sl dgR h v l) (hd : l[i]? = some d) : ∃ b p B u, ixsR 3 v (.int .i64 (i : Int)) = some (.ptr b p) ∧ h.get b = some B ∧ B[p]? = some (I d.from_) ∧ B[p + 1]? = some (I d.to_) ∧ B[p + 2]? = some u ∧ Sl byteR h u d.bytes := by
  obtain ⟨b, p, B, c, q1, q2, q3⟩ := o.at (n := 3) rfl (i := (i : Int)) (by omega) (by simpa using hd)
  obtain ⟨u, rfl, hu⟩ := q3
  have c1 := q2.cell (k := 1) (by simp)
  have c2 := q2.cell (k := 2) (by simp)
  exact ⟨b, p, B, u, q1, q2.get, q2.cell0 (by simp), by simpa using c1, by simpa using c2, hu⟩

theorem same19 (hX : OnlyKnown X) {a b : AVal} {l : List Dgram} {h : Heap} (oa : Sl dgR h a l) (ob : Sl dgR h b l) (hl : l.length < 2 ^ 62) : Tells (fun q => acallX Try.prog X q F_precentorlaw19_same [a, b] h) fun r h' => r = .bool true ∧ h' = h := by
  refine R_precentorlaw19_same _ _ (hX _ _ rfl) ?_
  refine Tells.prot fun Q' hQ => ?_
  unfold S_precentorlaw19_same
  simp [oa.len, ob.len, J_precentorlaw19_same_0]
  refine Tells.bind (Tells.loop (fun n t g => ∃ i : Nat, t 0 = a ∧ t 1 = b ∧ t 5 = I i ∧ i + n = l.length ∧ g = h) (Q := fun p g => p.1 = .exit 0 ∧ g = h) ?_ l.length _ _ ?_) ?_
  · rintro n t g ⟨i, t0, t1, t5, hi, rfl⟩
    refine Tells.prot fun Q2 hQ2 => ?_
    unfold L_precentorlaw19_same_2
    simp [t0, t5, oa.len]
    refine Tells.cb (fun hc => ?_) (fun hc => ?_)
    · simp at hc
      obtain ⟨d, hd⟩ : ∃ d, l[i]? = some d := ⟨_, List.getElem?_eq_getElem hc⟩
      obtain ⟨b1, p1, B1, u1, a1, a2, a3, a4, a5, a6⟩ := dg_at oa hd
      obtain ⟨b2, p2, B2, u2, c1, c2, c3, c4, c5, c6⟩ := dg_at ob hd
      have w : IntKind.i64.wrap ((i : Int) + 1) = i + 1 := wrap_id (by omega) (by omega)
      simp [J_precentorlaw19_same_3, t0, t1, t5, a1, a2, a3, a4, a5, c1, c2, c3, c4, c5, conv_text a6, conv_text c6, J_precentorlaw19_same_4, w]
      exact Tells.ok (hQ2 _ _ (.inl ⟨rfl, n - 1, by omega, i + 1, by simp [t0], by simp [t1], by simp, by omega, rfl⟩))
    · exact Tells.ok (hQ2 _ _ (.inr ⟨by simp, rfl, rfl⟩))
  · exact ⟨0, by simp, by simp, by simp, by omega, rfl⟩
  · rintro ⟨ex, t⟩ g ⟨rfl, rfl⟩
    simp [J_precentorlaw19_same_1]
    exact Tells.ok (hQ _ _ ⟨rfl, rfl⟩)

end
end Go.Proofs.Ythepnokmoaipfaa
