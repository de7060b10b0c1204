/-
  Texts of a claim, merged: TW1, Known0, TW2, TW3, TW4, TW5, TW6, TW7.
-/
import Derived.Test.YtchmlbjjadlleaaM0
import Derived.Test.YtchmlbjjadlleaaRts
import Derived.Test.YtchmlbjjadlleaaB2
import Derived.Test.YtchmlbjjadlleaaSIds
import Derived.Test.YtchmlbjjadlleaaRow0
import Derived.Test.YtchmlbjjadlleaaABProg
import Derived.Test.YtchmlbjjadlleaaSprecentorlaw21
set_option linter.unusedVariables false
set_option linter.unusedSimpArgs false
/-! TurnWaits: the brokers' Turns, all in one heap. -/
namespace Go.Proofs.Ytchmlbjjadlleaa
open Go.Ab

/-- A row of pointers. -/
def ptR : Rp Nat := ⟨1, by decide, fun _ cs x => cs = [.ptr x 0], fun h => by rw [h]; rfl, fun h => by rw [h]; rfl, fun h _ => h⟩
theorem Sl.atP {h : Heap} {v : AVal} {xs : List Nat} (o : Sl ptR h v xs) {i : Nat} {x : Nat} (hx : xs[i]? = some x) : ∃ b p B, ixsR 1 v (.int .i64 (i : Int)) = some (.ptr b p) ∧ h.get b = some B ∧ B[p]? = some (.ptr x 0) := by
  obtain ⟨b, p, B, c, q1, q2, q3⟩ := o.at (n := 1) rfl (i := (i : Int)) (by omega) (by simpa using hx)
  have q3 : c = [.ptr x 0] := q3
  subst q3
  exact ⟨b, p, B, q1, q2.get, q2.cell0 (by simp)⟩

/-- v's blocks are of other classes than w's. -/
def Off (h : Heap) (w v : AVal) : Prop := ∀ c, c ∈ v.blks → ∀ d, d ∈ w.blks → c < h.next ∧ d < h.next ∧ h.root c ≠ h.root d
theorem Off.nil {h : Heap} {w : AVal} : Off h w .nils := fun c hc => by simp [AVal.blks] at hc
theorem Off.ext {S : List Nat} {h h' : Heap} {w v : AVal} (o : Off h w v) (x : Ext S h h') : Off h' w v := fun c hc d hd => by
  obtain ⟨q1, q2, q3⟩ := o c hc d hd
  have := x.next
  exact ⟨by omega, by omega, by rw [root_ext x q1, root_ext x q2]; exact q3⟩
theorem root_xc {b : Nat} {h h' : Heap} (x : ExtC b h h') (c : Nat) : h'.root c = h.root c := by unfold Heap.root; rw [x.cls]
theorem Off.extC {b : Nat} {h h' : Heap} {w v : AVal} (o : Off h w v) (x : ExtC b h h') : Off h' w v := fun c hc d hd => by
  obtain ⟨q1, q2, q3⟩ := o c hc d hd
  exact ⟨by rw [x.next]; exact q1, by rw [x.next]; exact q2, by rw [root_xc x, root_xc x]; exact q3⟩
theorem Off.apart {h : Heap} {b : Nat} {w v : AVal} (o : Off h w v) (hb : b ∈ w.blks) : Apart h b v := Apart.of fun c hc => (o c hc b hb).2.2
/-- w grew. -/
theorem Off.growW {h h' : Heap} {w w' v : AVal} (o : Off h w v) (x : Ext w.blks h h') (hv : ∀ c, c ∈ v.blks → c < h.next) (hw : ∀ d, d ∈ w'.blks → d < h'.next) (r : ∀ d, d ∈ w'.blks → (∃ d', d' ∈ w.blks ∧ h'.root d = h.root d') ∨ h.next ≤ h'.root d) : Off h' w' v := fun c hc d hd => by
  have c1 := hv c hc
  refine ⟨Nat.lt_of_lt_of_le c1 x.next, hw d hd, ?_⟩
  rw [root_ext x c1]
  rcases r d hd with ⟨d', k1, k2⟩ | k
  · rw [k2]; exact (o c hc d' k1).2.2
  · have := root_le h c; omega
theorem Off.growV {h h' : Heap} {w v v' : AVal} (o : Off h w v) (x : Ext v.blks h h') (hw : ∀ d, d ∈ w.blks → d < h.next) (hv : ∀ c, c ∈ v'.blks → c < h'.next) (r : ∀ d, d ∈ v'.blks → (∃ d', d' ∈ v.blks ∧ h'.root d = h.root d') ∨ h.next ≤ h'.root d) : Off h' w v' := fun c hc d hd => by
  have d1 := hw d hd
  refine ⟨hv c hc, Nat.lt_of_lt_of_le d1 x.next, ?_⟩
  rw [root_ext x d1]
  rcases r c hc with ⟨c', k1, k2⟩ | k
  · rw [k2]; exact (o c' k1 d hd).2.2
  · have := root_le h d; omega
/-- v is younger than all of w. -/
theorem Off.new {h0 h : Heap} {w v : AVal} (a : Wr h0 h v) (hw : ∀ d, d ∈ w.blks → d < h0.next) (hl : h0.next ≤ h.next) : Off h w v := fun c hc d hd => by
  obtain ⟨q1, q2, q3⟩ := a c hc
  have := hw d hd
  have := root_le h d
  exact ⟨q3, by omega, by omega⟩
theorem Off.old {h0 h : Heap} {w v : AVal} (a : Wr h0 h w) (hv : ∀ d, d ∈ v.blks → d < h0.next) (hl : h0.next ≤ h.next) : Off h w v := fun c hc d hd => by
  obtain ⟨q1, q2, q3⟩ := a d hd
  have := hv c hc
  have := root_le h c
  exact ⟨by omega, q3, by omega⟩

/-- What a broker's Turn has. -/
structure BS where
  bt : Nat
  bq : Nat
  kv : AVal
  qs : List Bool
  ep : Int
  st : Bool
  rd : Bool
  pv : AVal
  cs : List Ch
def upB (B : Nat → BS) (b : Nat) (x : BS) : Nat → BS := fun i => if i = b then x else B i
theorem upB_self (B : Nat → BS) (b : Nat) (x : BS) : upB B b x b = x := if_pos rfl
theorem upB_ne (B : Nat → BS) {b i : Nat} (x : BS) (h : i ≠ b) : upB B b x i = B i := if_neg h
def TB (h : Heap) (ys : List Int) (i : Nat) (s : BS) : Prop := TP h s.bt s.bq (decide (i = 0)) s.kv (kidsN i 0 ys) s.qs s.ep s.st s.rd s.pv s.cs

structure WS (h : Heap) (n : Nat) (ys : List Int) (tv av bv : AVal) (bf : Nat) (B : Nat → BS) (bz : List Int) : Prop where
  t : ∀ i, i < n → TB h ys i (B i)
  d : ∀ i j, i < n → j < n → i ≠ j → (B i).bt ≠ (B j).bt ∧ (B i).bt ≠ (B j).bq ∧ (B i).bq ≠ (B j).bq
  f : ∀ i, i < n → bf ≠ (B i).bt ∧ bf ≠ (B i).bq
  y : Sl intR h tv ys
  a : Sl ptR h av ((List.range n).map fun i => (B i).bt)
  z : Sl intR h bv bz
  l : bz.length = n
  w : ∀ b, b ∈ bv.blks → h.n0 ≤ b
  ot : Off h bv tv
  oa : Off h bv av
  ok : ∀ i, i < n → Off h bv (B i).kv ∧ Off h bv (B i).pv

section
variable {h h' : Heap} {n : Nat} {ys : List Int} {tv av bv : AVal} {bf : Nat} {B : Nat → BS} {bz : List Int}

theorem TB.lt {i : Nat} {s : BS} (o : TB h ys i s) : s.bt < h.next ∧ s.bq < h.next := ⟨TP.o o |>.lt, TP.q o |>.lt⟩
theorem TB.m {i : Nat} {s : BS} (o : TB h ys i s) : h.isM s.bt = true ∧ h.isM s.bq = true := ⟨(TP.o o).2.1, (TP.q o).2.1⟩

/-- Something else was touched. -/
theorem WS.ext {S : List Nat} (o : WS h n ys tv av bv bf B bz) (x : Ext S h h') (hS : ∀ i, i < n → (B i).bt ∉ S ∧ (B i).bq ∉ S) (hm : ∀ b, b ∈ S → h.isM b = true ∨ h.next ≤ b) : WS h' n ys tv av bv bf B bz :=
  ⟨fun i hi => TP.eo (o.t i hi) x (hS i hi).1 (hS i hi).2 hm, o.d, o.f, o.y.ext x, o.a.ext x, o.z.ext x, o.l, fun b hb => by rw [x.n0]; exact o.w b hb, o.ot.ext x, o.oa.ext x, fun i hi => ⟨(o.ok i hi).1.ext x, (o.ok i hi).2.ext x⟩⟩
theorem WS.e (o : WS h n ys tv av bv bf B bz) (x : Ext [] h h') : WS h' n ys tv av bv bf B bz := o.ext x (by simp) (by simp)
theorem WS.feed (o : WS h n ys tv av bv bf B bz) (x : Ext [bf] h h') (m : h.isM bf = true) : WS h' n ys tv av bv bf B bz :=
  o.ext x (fun i hi => ⟨by simpa using (o.f i hi).1.symm, by simpa using (o.f i hi).2.symm⟩) fun b hb => by simp at hb; subst hb; exact .inl m

/-- A broker's Turn was touched. -/
theorem WS.upd {S : List Nat} (o : WS h n ys tv av bv bf B bz) {b : Nat} (hb : b < n) (x : Ext S h h') (hS : ∀ c, c ∈ S → c = (B b).bt ∨ c = (B b).bq) {s : BS} (ob : TB h' ys b s)
    (e1 : s.bt = (B b).bt) (e2 : s.bq = (B b).bq ∨ (h.next ≤ s.bq ∧ bf < h.next)) (e3 : s.kv = (B b).kv) (e4 : Off h' bv s.pv) : WS h' n ys tv av bv bf (upB B b s) bz := by
  have hm : ∀ c, c ∈ S → h.isM c = true ∨ h.next ≤ c := fun c hc => by
    have := (o.t b hb).m
    rcases hS c hc with rfl | rfl
    · exact .inl this.1
    · exact .inl this.2
  have ma : (List.range n).map (fun i => (upB B b s i).bt) = (List.range n).map fun i => (B i).bt := by
    refine List.map_congr_left fun i hi => ?_
    by_cases hib : i = b
    · subst hib; rw [upB_self, e1]
    · rw [upB_ne B s hib]
  refine ⟨fun i hi => ?_, fun i j hi hj hij => ?_, fun i hi => ?_, o.y.ext x, by rw [ma]; exact o.a.ext x, o.z.ext x, o.l, fun b hb => by rw [x.n0]; exact o.w b hb, o.ot.ext x, o.oa.ext x, fun i hi => ?_⟩
  · by_cases hib : i = b
    · subst hib; rw [upB_self]; exact ob
    · rw [upB_ne B s hib]
      obtain ⟨k1, k2, k3⟩ := o.d i b hi hb hib
      obtain ⟨m1, m2, m3⟩ := o.d b i hb hi (Ne.symm hib)
      refine TP.eo (o.t i hi) x (fun q => ?_) (fun q => ?_) hm
      · rcases hS _ q with q | q
        · exact k1 q
        · exact k2 q
      · rcases hS _ q with q | q
        · exact m2 q.symm
        · exact k3 q
  · by_cases hib : i = b
    · subst hib
      rw [upB_self, upB_ne B s (Ne.symm hij)]
      obtain ⟨k1, k2, k3⟩ := o.d i j hi hj hij
      have := (o.t j hj).lt
      rcases e2 with e2 | ⟨e2, _⟩
      · rw [e1, e2]; exact ⟨k1, k2, k3⟩
      · rw [e1]; exact ⟨k1, k2, by omega⟩
    · rw [upB_ne B s hib]
      by_cases hjb : j = b
      · subst hjb
        rw [upB_self]
        obtain ⟨k1, k2, k3⟩ := o.d i j hi hj hij
        have := (o.t i hi).lt
        rcases e2 with e2 | ⟨e2, _⟩
        · rw [e1, e2]; exact ⟨k1, k2, k3⟩
        · rw [e1]; exact ⟨k1, by omega, by omega⟩
      · rw [upB_ne B s hjb]
        exact o.d i j hi hj hij
  · by_cases hib : i = b
    · subst hib
      rw [upB_self, e1]
      rcases e2 with e2 | ⟨e2, e5⟩
      · rw [e2]; exact o.f i hi
      · exact ⟨(o.f i hi).1, by omega⟩
    · rw [upB_ne B s hib]; exact o.f i hi
  · by_cases hib : i = b
    · subst hib
      rw [upB_self]
      exact ⟨by rw [e3]; exact (o.ok i hi).1.ext x, e4⟩
    · rw [upB_ne B s hib]
      exact ⟨(o.ok i hi).1.ext x, (o.ok i hi).2.ext x⟩

/-- What is busy was told anew. -/
theorem WS.poke (o : WS h n ys tv av bv bf B bz) {b : Nat} {bz' : List Int} (hb : b ∈ bv.blks) (hm : h.isM b = false) (x : ExtC b h h') (z : Sl intR h' bv bz') (l : bz'.length = bz.length) : WS h' n ys tv av bv bf B bz' := by
  refine ⟨fun i hi => ?_, o.d, o.f, o.y.extC (fun q => q) x (o.ot.apart hb), o.a.extC (fun q => q) x (o.oa.apart hb), z, by rw [l]; exact o.l, fun c hc => by rw [x.n0]; exact o.w c hc, o.ot.extC x, o.oa.extC x, fun i hi => ⟨(o.ok i hi).1.extC x, (o.ok i hi).2.extC x⟩⟩
  exact TP.extC (o.t i hi) x hm ((o.ok i hi).1.apart hb) ((o.ok i hi).2.apart hb)

theorem WS.at (o : WS h n ys tv av bv bf B bz) {i : Nat} (hi : i < n) : ∃ b p B', ixsR 1 av (.int .i64 (i : Int)) = some (.ptr b p) ∧ h.get b = some B' ∧ B'[p]? = some (.ptr (B i).bt 0) :=
  Sl.atP o.a (by rw [List.getElem?_map, List.getElem?_range hi]; rfl)
end
end Go.Proofs.Ytchmlbjjadlleaa

/-! The package's closed example; pointers beside nil. -/
namespace Go.Proofs.Ytchmlbjjadlleaa
open Go.Ab

theorem known_X {X : XTab} {F : FuncId} (hk : X F [] = some (.bool true)) (h : Heap) : Tells (fun m => acallX Try.prog X m F [] h) fun a h' => a = .bool true ∧ h' = h :=
  ⟨.bool true, h, ⟨rfl, rfl⟩, 1, fun m hm => by
    obtain ⟨k, rfl⟩ : ∃ k, m = k + 1 := ⟨m - 1, by omega⟩
    simp only [acallX, hk]⟩
theorem ptr_nil {t e : TypeId} (hu : Try.prog.underlying t = some (.pointer e)) (o1 o2 : Operand) (b p : Nat) : aBin Try.prog .eql t o1 o2 (.ptr b p) .nilp = some (.bool false) := by
  simp only [aBin, AVal.toV, aNilCmp, hu, nilRes]
theorem ptr_nil' {t e : TypeId} (hu : Try.prog.underlying t = some (.pointer e)) (o1 o2 : Operand) (b p : Nat) : aBin Try.prog .neq t o1 o2 (.ptr b p) .nilp = some (.bool true) := by
  simp only [aBin, AVal.toV, aNilCmp, hu, nilRes]
end Go.Proofs.Ytchmlbjjadlleaa

/-! TurnWaits: all Turns are made. -/
namespace Go.Proofs.Ytchmlbjjadlleaa
open Go.Ab

section
variable {h : Heap} {n : Nat} {ys : List Int} {tv av bv : AVal} {bf : Nat} {B : Nat → BS} {bz : List Int}

theorem TB.x {h h' : Heap} {S : List Nat} {i : Nat} {s : BS} (o : TB h ys i s) (x : Ext S h h') (h1 : s.bt ∉ S) (h2 : s.bq ∉ S) (h3 : s.pv = .nils) : TB h' ys i s :=
  TP.ext o x h1 h2 (by rw [h3]; intro b hb; simp [AVal.blks] at hb)

theorem WS.grow {h1 h2 h3 : Heap} {av' bv' : AVal} {y : Int} (o : WS h n ys tv av bv bf B bz) (hpv : ∀ i, i < n → (B i).pv = .nils) (x1 : Ext [] h h1) {s : BS} (ob : TB h1 ys n s) (hp : s.pv = .nils) (wk : Wr h h1 s.kv) (l1 : h.next ≤ s.bt) (l2 : h.next ≤ s.bq) (hbf : bf < h.next)
    (x2 : Ext av.blks h1 h2) (a : Sl ptR h2 av' ((List.range n).map (fun i => (B i).bt) ++ [s.bt])) (ra : ∀ d, d ∈ av'.blks → (∃ d', d' ∈ av.blks ∧ h2.root d = h1.root d') ∨ h1.next ≤ h2.root d)
    (x3 : Ext bv.blks h2 h3) (z : Sl intR h3 bv' (bz ++ [y])) (rz : ∀ d, d ∈ bv'.blks → (∃ d', d' ∈ bv.blks ∧ h3.root d = h2.root d') ∨ h2.next ≤ h3.root d) (w : ∀ b, b ∈ bv'.blks → h3.n0 ≤ b) :
    WS h3 (n + 1) ys tv av' bv' bf (upB B n s) (bz ++ [y]) := by
  have m1 := x1.next
  have m2 := x2.next
  have ob1 := o.z.ext x1
  have oa1 := o.a.ext x1
  have bv2 : ∀ d, d ∈ bv.blks → d < h2.next := fun d hd => by have := (o.z.blk d hd).2; omega
  have bw3 : ∀ d, d ∈ bv'.blks → d < h3.next := fun d hd => (z.blk d hd).2
  have bw0 : ∀ d, d ∈ bv.blks → d < h.next := fun d hd => (o.z.blk d hd).2
  have keep : ∀ v, Off h bv v → (∀ c, c ∈ v.blks → c < h.next) → Off h3 bv' v := fun v q hv =>
    ((q.ext x1).ext x2).growW x3 (fun c hc => by have := hv c hc; omega) bw3 rz
  have old : ∀ i, i < n → TB h3 ys i (B i) := fun i hi => by
    have t1 : TB h1 ys i (B i) := TP.e (o.t i hi) x1
    have t2 : TB h2 ys i (B i) := t1.x x2 (oa1.ob (TP.o t1)) (oa1.ob (TP.q t1)) (hpv i hi)
    exact t2.x x3 ((ob1.ext x2).ob (TP.o t2)) ((ob1.ext x2).ob (TP.q t2)) (hpv i hi)
  have new : TB h3 ys n s := by
    have t2 : TB h2 ys n s := ob.x x2 (oa1.ob (TP.o ob)) (oa1.ob (TP.q ob)) hp
    exact t2.x x3 ((ob1.ext x2).ob (TP.o t2)) ((ob1.ext x2).ob (TP.q t2)) hp
  have ne : ∀ {i : Nat}, i < n → i ≠ n := fun q => by omega
  refine ⟨fun i hi => ?_, fun i j hi hj hij => ?_, fun i hi => ?_, ((o.y.ext x1).ext x2).ext x3, ?_, z, by simp [o.l], w, keep _ o.ot fun c hc => (o.y.blk c hc).2, ?_, fun i hi => ?_⟩
  · by_cases q : i = n
    · subst q; rw [upB_self]; exact new
    · rw [upB_ne _ _ q]; exact old i (by omega)
  · by_cases q : i = n
    · subst q
      rw [upB_self, upB_ne _ _ (Ne.symm hij)]
      have := (o.t j (by omega)).lt
      exact ⟨by omega, by omega, by omega⟩
    · rw [upB_ne _ _ q]
      have := (o.t i (by omega)).lt
      by_cases q2 : j = n
      · subst q2
        rw [upB_self]
        exact ⟨by omega, by omega, by omega⟩
      · rw [upB_ne _ _ q2]
        exact o.d i j (by omega) (by omega) hij
  · by_cases q : i = n
    · subst q; rw [upB_self]; exact ⟨by omega, by omega⟩
    · rw [upB_ne _ _ q]; exact o.f i (by omega)
  · have e : (List.range (n + 1)).map (fun i => (upB B n s i).bt) = (List.range n).map (fun i => (B i).bt) ++ [s.bt] := by
      rw [List.range_succ, List.map_append]
      congr 1
      · refine List.map_congr_left fun i hi => ?_
        rw [upB_ne _ _ (ne (List.mem_range.1 hi))]
      · simp [upB_self]
    rw [e]
    exact a.ext x3
  · have q1 : Off h2 bv av' := (o.oa.ext x1).growV x2 (fun d hd => by have := bw0 d hd; omega) (fun c hc => (a.blk c hc).2) ra
    exact q1.growW x3 (fun c hc => (a.blk c hc).2) bw3 rz
  · by_cases q : i = n
    · subst q
      rw [upB_self, hp]
      refine ⟨?_, .nil⟩
      have q1 : Off h1 bv s.kv := Off.new wk bw0 m1
      exact (q1.ext x2).growW x3 (fun c hc => by have := (wk c hc).2.2; omega) bw3 rz
    · rw [upB_ne _ _ q]
      have hi : i < n := by omega
      exact ⟨keep _ (o.ok i hi).1 fun c hc => ((TP.k (o.t i hi)).blk c hc).2, by rw [hpv i hi]; exact .nil⟩
end

/-- A Turn as it is made. -/
def Fresh21 (s : BS) (ys : List Int) (i : Nat) : Prop := s.qs = List.replicate (kidsN i 0 ys).length false ∧ s.ep = 0 ∧ s.st = false ∧ s.rd = false ∧ s.pv = .nils ∧ s.cs = []

/-- While they are made. -/
structure GInv (b : Nat) (t : T) (g hs : Heap) (ys zs : List Int) (tv lv av bv : AVal) (bf : Nat) (B : Nat → BS) (bz : List Int) : Prop where
  t1 : t 1 = lv
  t5 : t 5 = .ptr bf 0
  t6 : t 6 = tv
  t7 : t 7 = av
  t8 : t 8 = bv
  t9 : t 9 = I b
  l : b ≤ ys.length + 1
  o : WS g b ys tv av bv bf B bz
  fr : ∀ i, i < b → Fresh21 (B i) ys i
  ga : Gl ptR hs g av ((List.range b).map fun i => (B i).bt)
  gz : Gl intR hs g bv bz
  wa : Wr hs g av
  wz : Wr hs g bv
  x : Ext [] hs g
  bb : ∀ (i : Nat) z, bz[i]? = some z → 0 ≤ z ∧ z < 4

section
variable {X : XTab}
set_option maxHeartbeats 1000000
theorem waits_make (hX : OnlyKnown X) {hs : Heap} {t : T} {ys zs : List Int} {tv lv : AVal} {bf : Nat} (ok : TreeOk ys) (h5 : ys.length ≤ 5) (lo : RawInts hs lv zs) (hbf : bf < hs.next)
    (e1 : t 1 = lv) (e5 : t 5 = .ptr bf 0) (e6 : t 6 = tv) (e7 : t 7 = .nils) (e8 : t 8 = .nils) (e9 : t 9 = I 0) (oy : Sl intR hs tv ys) :
    Tells (fun m => loopN (L_precentorlaw21_TurnWaits_22 Try.prog (acallX Try.prog X m) m) m t hs) fun p g => p.1 = .exit 0 ∧ ∃ av bv B bz, GInv (ys.length + 1) p.2 g hs ys zs tv lv av bv bf B bz := by
  refine Tells.loop (fun n t g => ∃ b av bv B bz, GInv b t g hs ys zs tv lv av bv bf B bz ∧ b + n = ys.length + 1) ?_ (ys.length + 1) _ _ ⟨0, .nils, .nils, fun _ => ⟨0, 0, .nils, [], 0, false, false, .nils, []⟩, [], ⟨e1, e5, e6, e7, e8, e9, by omega, ⟨fun i hi => by omega, fun i j hi => by omega, fun i hi => by omega, oy, Sl.nil, Sl.nil, rfl, fun b hb => by simp [AVal.blks] at hb, fun c hc d hd => by simp [AVal.blks] at hd, .nil, fun i hi => by omega⟩, fun i hi => by omega, Gl.nil, Gl.nil, fun b hb => by simp [AVal.blks] at hb, fun b hb => by simp [AVal.blks] at hb, .refl, fun i z hz => by simp at hz⟩, by omega⟩
  rintro n t g ⟨b, av, bv, B, bz, iv, hn⟩
  refine Tells.prot fun Q2 hQ2 => ?_
  unfold L_precentorlaw21_TurnWaits_22
  have og := iv.o.y
  simp [iv.t9, iv.t6, og.len]
  refine Tells.cb (fun hc => ?_) (fun hc => ?_)
  · simp at hc
    simp [J_precentorlaw21_TurnWaits_23, iv.t6, iv.t9]
    refine Tells.bind (turn_NewW hX og ok (by omega) (b := (b : Int)) (by omega)) ?_
    rintro _ h1 ⟨x1, ⟨_, bt, bq, kv, rfl, ob, l1, l2, wk⟩ | ⟨q, _⟩⟩
    · have hp2 : aBin Try.prog .eql 22 (.tmp 46) (.const (.pointer none)) (.ptr bt 0) .nilp = some (.bool false) := ptr_nil Try.underlying22 _ _ _ _
      have w : IntKind.i64.wrap ((b : Int) + 1) = b + 1 := wrap_id (by omega) (by omega)
      simp [extR, hp2, J_precentorlaw21_TurnWaits_25, iv.t7]
      refine Tells.app1R (iv.ga.e x1) (iv.wa.ext x1) (by rfl) (by rfl) (show ptR.rep h1 [.ptr bt 0] bt from rfl) (by rfl) (by rfl) (by simp; omega) (by decide) (iv.x.trans x1).next fun s2 h2 g2 w2 x2 y2 r2 => ?_
      have X2 := y2 [] (iv.x.trans x1)
      have z2 : Gl intR hs h2 bv bz := iv.gz.e x1 |>.ext x2 fun c hc q => ((iv.o.oa.ext x1) c q c hc).2.2 rfl
      have wz2 : Wr hs h2 bv := (iv.wz.ext x1).ext x2
      -- what is busy
      have last : ∀ (t' : T) (y : Int), 0 ≤ y ∧ y < 4 → t' 1 = lv → t' 5 = .ptr bf 0 → t' 6 = tv → t' 7 = s2 → t' 8 = bv → t' 9 = I b → t' 12 = I y →
          Tells (fun m => J_precentorlaw21_TurnWaits_26 Try.prog (acallX Try.prog X m) m (blkK 1 (sqK (J_precentorlaw21_TurnWaits_24 Try.prog (acallX Try.prog X m) m okK) okK)) t' h2) Q2 := by
        intro t' y hy a1 a5 a6 a7 a8 a9 a12
        simp [J_precentorlaw21_TurnWaits_26, a8, a12]
        refine Tells.app1R z2 wz2 (by rfl) (by rfl) (show intR.rep h2 [I y] y from rfl) (by rfl) (by rfl) (by rw [iv.o.l]; omega) (by decide) X2.next fun s3 h3 g3 w3 x3 y3 r3 => ?_
        simp [J_precentorlaw21_TurnWaits_24, a9, w]
        have tb : TB h1 ys b ⟨bt, bq, kv, List.replicate (kidsN b 0 ys).length false, 0, false, false, .nils, []⟩ := by
          have e : (((b : Int) == 0) : Bool) = decide (b = 0) := by
            by_cases q : b = 0
            · subst q; rfl
            · rw [beq_eq_false_iff_ne.2 (by omega)]; simp [q]
          rw [e] at ob
          exact ob
        have ws := iv.o.grow (fun i hi => (iv.fr i hi).2.2.2.2.1) x1 tb rfl wk l1 l2 (Nat.lt_of_lt_of_le hbf iv.x.next) x2 g2.1 r2 x3 g3.1 r3 fun d hd => (w3 d hd).2.1
        have ma : (List.range (b + 1)).map (fun i => (upB B b ⟨bt, bq, kv, List.replicate (kidsN b 0 ys).length false, 0, false, false, .nils, []⟩ i).bt) = (List.range b).map (fun i => (B i).bt) ++ [bt] := by
          rw [List.range_succ, List.map_append]
          congr 1
          · refine List.map_congr_left fun i hi => ?_
            rw [upB_ne _ _ (by have := List.mem_range.1 hi; omega)]
          · simp [upB_self]
        refine Tells.ok (hQ2 _ _ (.inl ⟨rfl, n - 1, by omega, b + 1, s2, s3, _, _, ⟨by simp [a1], by simp [a5], by simp [a6], by simp [a7], by simp, by simp, by omega, ws, fun i hi => ?_, ?_, g3, w2.ext x3, w3, y3 [] X2, fun i z hz => ?_⟩, by omega⟩))
        · by_cases q : i = b
          · subst q; rw [upB_self]; exact ⟨rfl, rfl, rfl, rfl, rfl, rfl⟩
          · rw [upB_ne _ _ q]; exact iv.fr i (by omega)
        · rw [ma]
          exact g2.ext x3 fun c hc q => by
            have := (iv.o.oa.ext x1).growV x2 (fun d hd => by have := (iv.o.z.blk d hd).2; have := x1.next; omega) (fun c hc => (g2.1.blk c hc).2) r2
            exact (this c hc c q).2.2 rfl
        · rcases Nat.lt_or_ge i bz.length with k | k
          · rw [List.getElem?_append_left k] at hz; exact iv.bb i z hz
          · rw [List.getElem?_append_right k] at hz
            cases hi : i - bz.length with
            | zero => rw [hi] at hz; simp at hz; subst hz; exact hy
            | succ j => rw [hi] at hz; simp at hz
      have ol := lo.ext X2
      simp [iv.t9, iv.t1, ol.sl.len]
      refine Tells.cb (fun hc => ?_) (fun hc => ?_)
      · simp at hc
        obtain ⟨z, hz⟩ : ∃ z, zs[b]? = some z := ⟨_, List.getElem?_eq_getElem hc⟩
        obtain ⟨b4, p4, B4, q1, q2, q3⟩ := ol.sl.atI hz
        simp [q1, q2, q3]
        refine Tells.bind (Pick hX z 4 (by unfold In64; omega) h2) ?_
        rintro _ h3 ⟨rfl, rfl⟩
        have k1 := pick_lo z 4
        have k2 := pick_hi z 4 (by omega)
        exact last _ _ ⟨k1, k2⟩ (by simp [iv.t1]) (by simp [iv.t5]) (by simp [iv.t6]) (by simp) (by simp [iv.t8]) (by simp [iv.t9]) (by simp)
      · exact last _ 0 ⟨by omega, by omega⟩ (by simp [iv.t1]) (by simp [iv.t5]) (by simp [iv.t6]) (by simp) (by simp [iv.t8]) (by simp [iv.t9]) (by simp)
    · omega
  · simp at hc
    have hb : b = ys.length + 1 := by have := iv.l; omega
    subst hb
    exact Tells.ok (hQ2 _ _ (.inr ⟨by simp, rfl, av, bv, B, bz, ⟨by simp [iv.t1], by simp [iv.t5], by simp [iv.t6], by simp [iv.t7], by simp [iv.t8], by simp [iv.t9], by omega, iv.o, iv.fr, iv.ga, iv.gz, iv.wa, iv.wz, iv.x, iv.bb⟩⟩))
end
end Go.Proofs.Ytchmlbjjadlleaa

/-! TurnWaits: what holds of all Turns while the root waits. -/
namespace Go.Proofs.Ytchmlbjjadlleaa
open Go.Ab

theorem upB_f {α : Type} (f : BS → α) {B : Nat → BS} {b : Nat} {s : BS} (e : f s = f (B b)) (i : Nat) : f (upB B b s i) = f (B i) := by
  by_cases q : i = b
  · subst q; rw [upB_self, e]
  · rw [upB_ne _ _ q]
theorem upB_id (B : Nat → BS) (b : Nat) : upB B b (B b) = B := by
  funext i
  by_cases q : i = b
  · subst q; rw [upB_self]
  · rw [upB_ne _ _ q]

/-- What none that was told wrong breaks. -/
structure PC (ys : List Int) (B : Nat → BS) (bz : List Int) : Prop where
  ep : ∀ i, i < ys.length + 1 → (B i).ep = 0
  up : ∀ i : Nat, 0 < i → i < ys.length + 1 → (B i).st = true → (B (parF ys i).toNat).st = true
  rd : ∀ i, i < ys.length + 1 → (B i).rd = true → (B i).st = true ∧ (∀ z, bz[i]? = some z → z ≤ 0) ∧ ∀ z, z ∈ kidsN i 0 ys → (B z.toNat).rd = true
  pv : ∀ i, 0 < i → i < ys.length + 1 → (B i).pv = .nils ∧ (B i).cs = []
  c0 : (B 0).cs.length = 1
/-- Of each broker the kids that said that they are quiet are those that are ready. -/
def PQ (ys : List Int) (B : Nat → BS) : Prop := ∀ i : Nat, i < ys.length + 1 → (B i).qs = (kidsN i 0 ys).map fun z => (B z.toNat).rd
structure Fin21 (ys : List Int) (B : Nat → BS) : Prop where
  e0 : (B 0).ep = 1
  r : ∀ i, 0 < i → i < ys.length + 1 → (B i).st = true ∧ (B i).ep = 0 ∧ (B i).pv = .nils ∧ (B i).cs = []

section
variable {ys : List Int} {B : Nat → BS} {bz : List Int}

theorem PC.stop (p : PC ys B bz) {b : Nat} (hb : b < ys.length + 1) (hp : (B (parF ys b).toNat).st = true) : PC ys (upB B b { B b with st := true }) bz := by
  refine ⟨fun i hi => ?_, fun i h0 hi hs => ?_, fun i hi hr => ?_, fun i h0 hi => ?_, ?_⟩
  · rw [upB_f (s := { B b with st := true }) BS.ep rfl]; exact p.ep i hi
  · have : ∀ j, (B j).st = true → (upB B b { B b with st := true } j).st = true := fun j hj => by
      by_cases q : j = b
      · subst q; rw [upB_self]
      · rw [upB_ne _ _ q]; exact hj
    refine this _ ?_
    by_cases q : i = b
    · subst q; exact hp
    · rw [upB_ne _ _ q] at hs; exact p.up i h0 hi hs
  · rw [upB_f (s := { B b with st := true }) BS.rd rfl] at hr
    obtain ⟨k1, k2, k3⟩ := p.rd i hi hr
    refine ⟨?_, k2, fun z hz => by rw [upB_f (s := { B b with st := true }) BS.rd rfl]; exact k3 z hz⟩
    by_cases q : i = b
    · subst q; rw [upB_self]
    · rw [upB_ne _ _ q]; exact k1
  · rw [upB_f (s := { B b with st := true }) BS.pv rfl, upB_f (s := { B b with st := true }) BS.cs rfl]; exact p.pv i h0 hi
  · rw [upB_f (s := { B b with st := true }) BS.cs rfl]; exact p.c0
theorem PQ.stop (p : PQ ys B) {b : Nat} : PQ ys (upB B b { B b with st := true }) := fun i hi => by
  rw [upB_f (s := { B b with st := true }) BS.qs rfl, p i hi]
  exact List.map_congr_left fun z _ => by rw [upB_f (s := { B b with st := true }) BS.rd rfl]

theorem PC.dec (p : PC ys B bz) {b : Nat} {x : Int} (hx : bz[b]? = some x) : PC ys B (bz.set b (x - 1)) := by
  refine ⟨p.ep, p.up, fun i hi hr => ?_, p.pv, p.c0⟩
  obtain ⟨k1, k2, k3⟩ := p.rd i hi hr
  refine ⟨k1, fun z hz => ?_, k3⟩
  rw [List.getElem?_set] at hz
  by_cases q : b = i
  · subst q
    have := k2 x hx
    rw [if_pos rfl, if_pos (List.getElem?_eq_some_iff.1 hx).1] at hz
    cases hz
    omega
  · rw [if_neg q] at hz; exact k2 z hz

theorem PC.ready (p : PC ys B bz) (pq : PQ ys B) {b : Nat} (hb : b < ys.length + 1) (hs : (B b).st = true) (hz : ∀ z, bz[b]? = some z → z ≤ 0) (hq : (B b).qs.all id = true) : PC ys (upB B b { B b with rd := true }) bz := by
  have up : ∀ j, (B j).rd = true → (upB B b { B b with rd := true } j).rd = true := fun j hj => by
    by_cases q : j = b
    · subst q; rw [upB_self]
    · rw [upB_ne _ _ q]; exact hj
  refine ⟨fun i hi => ?_, fun i h0 hi hs => ?_, fun i hi hr => ?_, fun i h0 hi => ?_, ?_⟩
  · rw [upB_f (s := { B b with rd := true }) BS.ep rfl]; exact p.ep i hi
  · rw [upB_f (s := { B b with rd := true }) BS.st rfl] at hs ⊢; exact p.up i h0 hi hs
  · rw [upB_f (s := { B b with rd := true }) BS.st rfl]
    by_cases q : i = b
    · subst q
      refine ⟨hs, hz, fun z hz => up _ ?_⟩
      rw [pq i hi] at hq
      have := List.all_eq_true.1 hq _ (List.mem_map_of_mem hz)
      exact this
    · rw [upB_ne _ _ q] at hr
      obtain ⟨k1, k2, k3⟩ := p.rd i hi hr
      exact ⟨k1, k2, fun z hz => up _ (k3 z hz)⟩
  · rw [upB_f (s := { B b with rd := true }) BS.pv rfl, upB_f (s := { B b with rd := true }) BS.cs rfl]; exact p.pv i h0 hi
  · rw [upB_f (s := { B b with rd := true }) BS.cs rfl]; exact p.c0

/-- All behind a broker that is ready are stopped, and have nothing on their way. -/
theorem PC.behind (p : PC ys B bz) (ok : TreeOk ys) {b : Nat} (hb : b < ys.length + 1) (hr : (B b).rd = true) {x : Nat} (hx : x < ys.length + 1) (hu : (b : Int) ∈ upF ys x) : (B x).st = true ∧ ∀ z, bz[x]? = some z → z ≤ 0 := by
  have := all_behind ok (R := fun i => i < ys.length + 1 ∧ (B i).rd = true) (fun i ⟨k1, k2⟩ z hz => ⟨by have := kid_par hz; omega, (p.rd i k1 k2).2.2 z hz⟩) ⟨hb, hr⟩ x (by omega) hu
  obtain ⟨k1, k2, _⟩ := p.rd x hx this.2
  exact ⟨k1, k2⟩

theorem PC.quiet (p : PC ys B bz) {u : Nat} (q : List Bool) : PC ys (upB B u { B u with qs := q }) bz := by
  refine ⟨fun i hi => ?_, fun i h0 hi hs => ?_, fun i hi hr => ?_, fun i h0 hi => ?_, ?_⟩
  · rw [upB_f (s := { B u with qs := q }) BS.ep rfl]; exact p.ep i hi
  · rw [upB_f (s := { B u with qs := q }) BS.st rfl] at hs ⊢; exact p.up i h0 hi hs
  · rw [upB_f (s := { B u with qs := q }) BS.rd rfl] at hr
    obtain ⟨k1, k2, k3⟩ := p.rd i hi hr
    exact ⟨by rw [upB_f (s := { B u with qs := q }) BS.st rfl]; exact k1, k2, fun z hz => by rw [upB_f (s := { B u with qs := q }) BS.rd rfl]; exact k3 z hz⟩
  · rw [upB_f (s := { B u with qs := q }) BS.pv rfl, upB_f (s := { B u with qs := q }) BS.cs rfl]; exact p.pv i h0 hi
  · rw [upB_f (s := { B u with qs := q }) BS.cs rfl]; exact p.c0

/-- When b's parent has heard that b is quiet, the bits are right again. -/
theorem PQ.quiet (pq : PQ ys B) (ok : TreeOk ys) {b u : Nat} (h0 : 0 < b) (hb : b < ys.length + 1) (hu : (u : Int) = parF ys b) {k : Nat} (hk : (kidsN u 0 ys)[k]? = some (b : Int)) :
    PQ ys (upB (upB B b { B b with rd := true }) u { upB B b { B b with rd := true } u with qs := (upB B b { B b with rd := true } u).qs.set k true }) := by
  have rde : ∀ z : Int, 0 < z → (upB B b { B b with rd := true } z.toNat).rd = if z = b then true else (B z.toNat).rd := fun z hz => by
    by_cases q : z = b
    · rw [if_pos q, show z.toNat = b by omega, upB_self]
    · rw [if_neg q, upB_ne _ _ (by omega)]
  intro i hi
  have r2 : (kidsN i 0 ys).map (fun z : Int => (upB (upB B b { B b with rd := true }) u { upB B b { B b with rd := true } u with qs := (upB B b { B b with rd := true } u).qs.set k true } z.toNat).rd) = (kidsN i 0 ys).map fun z : Int => if z = b then true else (B z.toNat).rd := by
    refine List.map_congr_left fun z hz => ?_
    rw [upB_f (B := upB B b { B b with rd := true }) (b := u) (s := { upB B b { B b with rd := true } u with qs := (upB B b { B b with rd := true } u).qs.set k true }) BS.rd rfl]
    exact rde z (kid_par hz).2.1
  rw [r2]
  by_cases q : i = u
  · subst q
    rw [upB_self]
    show (upB B b { B b with rd := true } i).qs.set k true = _
    rw [upB_f (s := { B b with rd := true }) BS.qs rfl, pq i hi]
    exact map_set (f := fun z => (B z.toNat).rd) kidsN_sorted hk
  · rw [upB_ne _ _ q, upB_f (s := { B b with rd := true }) BS.qs rfl, pq i hi]
    refine List.map_congr_left fun z hz => ?_
    have := kid_par hz
    rw [if_neg fun e => q (by subst e; omega)]

theorem PC.fin (p : PC ys B bz) (ok : TreeOk ys) (hr : (B 0).rd = true) {s : BS} (hs : s.ep = 1) : Fin21 ys (upB B 0 s) := by
  refine ⟨by rw [upB_self]; exact hs, fun i h0 hi => ?_⟩
  rw [upB_ne _ _ (by omega)]
  obtain ⟨k1, k2⟩ := p.pv i h0 hi
  exact ⟨(p.behind ok (by omega) hr hi (up_root ok (by omega) (by omega))).1, p.ep i hi, k1, k2⟩
end
end Go.Proofs.Ytchmlbjjadlleaa

/-! TurnWaits: what one round does, from behind: the bits, the root's opening, who is looked at. -/
namespace Go.Proofs.Ytchmlbjjadlleaa
open Go.Ab

/-- While rounds go on. -/
structure MI (i : Nat) (t : T) (g : Heap) (ys : List Int) (tv av bv : AVal) (bf : Nat) (B : Nat → BS) (bz : List Int) (K : Nat) : Prop where
  t5 : t 5 = .ptr bf 0
  t6 : t 6 = tv
  t7 : t 7 = av
  t8 : t 8 = bv
  t13 : t 13 = I i
  o : WS g (ys.length + 1) ys tv av bv bf B bz
  f : Feed g bf K
  bb : ∀ (i : Nat) z, bz[i]? = some z → 0 ≤ z ∧ z < 4

section
variable {X : XTab} {i : Nat} {t : T} {g : Heap} {ys : List Int} {tv av bv : AVal} {bf : Nat} {B : Nat → BS} {bz : List Int} {K : Nat} {Q : Ex × T → Heap → Prop}

noncomputable abbrev kT (X : XTab) (m : Nat) : Kn (Ex × T) := blkK 3 (sqK (J_precentorlaw21_TurnWaits_10 Try.prog (acallX Try.prog X m) m okK) okK)

/-- What is asked of the end of a round. -/
def QT (i : Nat) (ys : List Int) (tv av bv : AVal) (bf K : Nat) (Q : Ex × T → Heap → Prop) : Prop := ∀ t g B bz, MI (i + 1) t g ys tv av bv bf B bz K → (PC ys B bz ∧ PQ ys B ∨ Fin21 ys B) → Q (.normal, t) g

theorem w10 (mi : MI i t g ys tv av bv bf B bz K) (hi : i < 300) (p : PC ys B bz ∧ PQ ys B ∨ Fin21 ys B) (hQ : QT i ys tv av bv bf K Q) : Tells (fun m => J_precentorlaw21_TurnWaits_10 Try.prog (acallX Try.prog X m) m okK t g) Q := by
  have w : IntKind.i64.wrap ((i : Int) + 1) = i + 1 := wrap_id (by omega) (by omega)
  simp [J_precentorlaw21_TurnWaits_10, mi.t13, w]
  exact Tells.ok (hQ _ _ B bz ⟨by simp [mi.t5], by simp [mi.t6], by simp [mi.t7], by simp [mi.t8], by simp, mi.o, mi.f, mi.bb⟩ p)

theorem w15 (hX : OnlyKnown X) (mi : MI i t g ys tv av bv bf B bz K) (hi : i < 300) (ok : TreeOk ys) (h5 : ys.length ≤ 5) {b : Nat} (e14 : t 14 = I b) (hb : b < ys.length + 1) (p : PC ys B bz) (pq : 0 < b → PQ ys B) (h0 : b = 0 → (B 0).rd = true) (hQ : QT i ys tv av bv bf K Q) :
    Tells (fun m => J_precentorlaw21_TurnWaits_15 Try.prog (acallX Try.prog X m) m (kT X m) t g) Q := by
  by_cases q : b = 0
  · subst q
    obtain ⟨b7, p7, B7, q1, q2, q3⟩ := mi.o.at hb
    have tb := mi.o.t 0 hb
    obtain ⟨hs, _⟩ := p.rd 0 hb (h0 rfl)
    have ep := p.ep 0 hb
    have cl := kidsN_len 0 0 ys
    simp [kT, J_precentorlaw21_TurnWaits_15, e14, mi.t7]
    simp at q1
    simp [q1, q2, q3]
    refine Tells.bind (turn_Open hX tb (by rw [ep]; omega) (by have := kidsN_len ((0 : Nat) : Int) 0 ys; omega) 1) ?_
    rintro _ h1 ⟨x1, ⟨_, _, rfl, sc, bq', l', o'⟩ | ⟨q, _⟩⟩
    · simp [extR, sc.len, p.c0]
      have pv0 : Off h1 bv .nils := .nil
      have ws := mi.o.upd hb x1 (by simp) (s := { B 0 with bq := bq', qs := List.replicate (kidsN ((0 : Nat) : Int) 0 ys).length false, ep := 1, st := false, rd := false, pv := .nils, cs := [] }) o' rfl (.inr ⟨l', mi.f.lt⟩) rfl pv0
      have ne := (mi.o.f 0 hb).1
      exact w10 ⟨by simp [mi.t5], by simp [mi.t6], by simp [mi.t7], by simp [mi.t8], by simp [mi.t13], ws, mi.f.ext x1 (by simpa using ne), mi.bb⟩ hi (.inr (p.fin ok (h0 rfl) rfl)) hQ
    · exact absurd ⟨hs, by rw [ep]; rfl⟩ q
  · have hn : ((b : Int) == 0) = false := beq_eq_false_iff_ne.2 (by omega)
    simp [kT, J_precentorlaw21_TurnWaits_15, e14, hn]
    exact w10 ⟨by simp [mi.t5], by simp [mi.t6], by simp [mi.t7], by simp [mi.t8], by simp [mi.t13], mi.o, mi.f, mi.bb⟩ hi (.inl ⟨p, pq (by omega)⟩) hQ

theorem w14 (hX : OnlyKnown X) {B0 : Nat → BS} {b : Nat} (mi : MI i t g ys tv av bv bf (upB B0 b { B0 b with rd := true }) bz K) (hi : i < 300) (ok : TreeOk ys) (h5 : ys.length ≤ 5) (e14 : t 14 = I b) (e15 : 0 < b → t 15 = I (parF ys b)) (hb : b < ys.length + 1)
    (pq : PQ ys B0) (p : PC ys (upB B0 b { B0 b with rd := true }) bz) (hr : (B0 b).rd = false) (hQ : QT i ys tv av bv bf K Q) :
    Tells (fun m => J_precentorlaw21_TurnWaits_14 Try.prog (acallX Try.prog X m) m (kT X m) t g) Q := by
  by_cases q : b = 0
  · subst q
    simp [kT, J_precentorlaw21_TurnWaits_14, e14]
    exact w15 hX ⟨by simp [mi.t5], by simp [mi.t6], by simp [mi.t7], by simp [mi.t8], by simp [mi.t13], mi.o, mi.f, mi.bb⟩ hi ok h5 (b := 0) (by simp [e14]) hb p (fun q => by omega) (fun _ => by rw [upB_self]) hQ
  · have h0 : 0 < b := by omega
    obtain ⟨u, hu⟩ : ∃ u : Nat, (u : Int) = parF ys b := ⟨(parF ys b).toNat, by have := par_lt ok (a := (b : Int)) (by omega) (by omega); omega⟩
    have pl := par_lt ok (a := (b : Int)) (by omega) (by omega)
    have hul : u < ys.length + 1 := by omega
    have hub : u ≠ b := by omega
    have su : (upB B0 b { B0 b with rd := true } u).st = true := by
      have := p.up b h0 hb (p.rd b hb (by rw [upB_self])).1
      rw [← hu] at this
      simpa using this
    have ep := p.ep u hul
    have kl := kidsN_len (u : Int) 0 ys
    have qsu : (upB B0 b { B0 b with rd := true } u).qs = (kidsN u 0 ys).map fun z => (B0 z.toNat).rd := by
      rw [upB_f (s := { B0 b with rd := true }) BS.qs rfl]; exact pq u hul
    have e15 := e15 h0
    rw [← hu] at e15
    obtain ⟨b7, p7, B7, q1, q2, q3⟩ := mi.o.at hul
    have tb := mi.o.t u hul
    have hn : (0 : Int) < b := by omega
    simp [kT, J_precentorlaw21_TurnWaits_14, e14, hn, mi.t7, e15, h0, q1, q2, q3]
    refine Tells.bind (turn_Quiet hX tb (by omega) (b : Int) 0) ?_
    rintro _ h1 ⟨x1, ⟨_, _, rfl, k, hk, hk2, o'⟩ | ⟨_, _, q⟩⟩
    · have ws := mi.o.upd hul x1 (by simp) (s := { upB B0 b { B0 b with rd := true } u with qs := (upB B0 b { B0 b with rd := true } u).qs.set k true }) o' rfl (.inl rfl) rfl ((mi.o.ok u hul).2.ext x1)
      have ne := (mi.o.f u hul).2
      have f1 := mi.f.ext x1 (by simpa using ne)
      obtain ⟨b8, p8, B8, r1, r2, r3⟩ := ws.at hul
      have tb2 := ws.t u hul
      rw [upB_self] at tb2 r3
      cases q1.symm.trans r1
      simp at r3
      simp [q1, r2, r3]
      refine Tells.bind (turn_Quiet hX tb2 (by omega) (b : Int) 0) ?_
      rintro _ h2 ⟨x2, ⟨_, _, _, k', hk', hk2', _⟩ | ⟨rfl, rfl, _⟩⟩
      · exfalso
        have pq2 := pq.quiet ok h0 hb hu hk u hul
        rw [upB_self] at pq2
        have pq2 : (upB B0 b { B0 b with rd := true } u).qs.set k true = _ := pq2
        have hk2' : ((upB B0 b { B0 b with rd := true } u).qs.set k true)[k']? = some false := hk2'
        rw [pq2, List.getElem?_map, hk'] at hk2'
        simp at hk2'
        rw [upB_ne _ _ (Ne.symm hub), upB_self] at hk2'
        cases hk2'
      · simp
        exact w15 hX ⟨by simp [mi.t5], by simp [mi.t6], by simp [mi.t7], by simp [mi.t8], by simp [mi.t13], ws, f1, mi.bb⟩ hi ok h5 (b := b) (by simp [e14]) hb (p.quiet _) (fun _ => pq.quiet ok h0 hb hu hk) (fun q => by omega) hQ
    · exfalso
      have hm : (b : Int) ∈ kidsN u 0 ys := by rw [hu]; exact par_kid hn (by omega)
      obtain ⟨k, hk⟩ := List.getElem?_of_mem hm
      have := q su ep.symm k hk
      rw [qsu, List.getElem?_map, hk] at this
      simp [hr] at this

end
end Go.Proofs.Ytchmlbjjadlleaa

/-! TurnWaits: one round. -/
namespace Go.Proofs.Ytchmlbjjadlleaa
open Go.Ab

section
variable {X : XTab} {i : Nat} {t : T} {g : Heap} {ys : List Int} {tv av bv : AVal} {bf : Nat} {B : Nat → BS} {bz : List Int} {K : Nat} {Q : Ex × T → Heap → Prop}

/-- All that are looked at are stopped, and have nothing on their way. -/
theorem wSide (hX : OnlyKnown X) (mi : MI i t g ys tv av bv bf B bz K) (h5 : ys.length ≤ 5) {sv a14 a15 : AVal} {side : List Int} (os : Sl intR g sv side) (hl : side.length ≤ 1000) (e14 : t 14 = a14) (e15 : t 15 = a15) (e16 : t 16 = sv) (e18 : t 18 = I 0)
    (good : ∀ x, x ∈ side → ∃ n : Nat, x = n ∧ n < ys.length + 1 ∧ (B n).st = true ∧ ∀ z, bz[n]? = some z → z ≤ 0) :
    Tells (fun m => loopN (L_precentorlaw21_TurnWaits_16 Try.prog (acallX Try.prog X m) m) m t g) fun p g' => p.1 = .exit 6 ∧ g' = g ∧ MI i p.2 g ys tv av bv bf B bz K ∧ p.2 14 = a14 ∧ p.2 15 = a15 := by
  refine Tells.loop (fun n t g' => g' = g ∧ ∃ k : Nat, MI i t g ys tv av bv bf B bz K ∧ t 14 = a14 ∧ t 15 = a15 ∧ t 16 = sv ∧ t 18 = I k ∧ k + n = side.length) ?_ side.length _ _ ⟨rfl, 0, mi, e14, e15, e16, e18, by omega⟩
  rintro n t g' ⟨rfl, k, mi, e14, e15, e16, e18, hk⟩
  refine Tells.prot fun Q2 hQ2 => ?_
  unfold L_precentorlaw21_TurnWaits_16
  simp [e18, e16, os.len]
  refine Tells.cb (fun hc => ?_) (fun hc => ?_)
  · simp at hc
    obtain ⟨x, hx⟩ : ∃ x, side[k]? = some x := ⟨_, List.getElem?_eq_getElem hc⟩
    obtain ⟨b1, p1, B1, q1, q2, q3⟩ := os.atI hx
    obtain ⟨n1, rfl, hn1, hst, hz⟩ := good x (List.mem_of_getElem? hx)
    obtain ⟨z, hbz⟩ : ∃ z, bz[n1]? = some z := ⟨_, List.getElem?_eq_getElem (by rw [mi.o.l]; exact hn1)⟩
    obtain ⟨b2, p2, B2, r1, r2, r3⟩ := mi.o.z.atI hbz
    have hz0 := hz z hbz
    have hz1 := (mi.bb n1 z hbz).1
    have hzz : z = 0 := by omega
    subst hzz
    obtain ⟨b7, p7, B7, s1, s2, s3⟩ := mi.o.at hn1
    have w : IntKind.i64.wrap ((k : Int) + 1) = k + 1 := wrap_id (by omega) (by omega)
    simp [J_precentorlaw21_TurnWaits_17, mi.t8, e16, e18, q1, q2, q3, r1, r2, r3, mi.t7, s1, s2, s3]
    refine Tells.bind (turn_Stopped hX (mi.o.t n1 hn1)) ?_
    rintro _ h1 ⟨rfl, rfl⟩
    simp [hst, J_precentorlaw21_TurnWaits_18, e18, w]
    exact Tells.ok (hQ2 _ _ (.inl ⟨rfl, n - 1, by omega, rfl, k + 1, ⟨by simp [mi.t5], by simp [mi.t6], by simp [mi.t7], by simp [mi.t8], by simp [mi.t13], mi.o, mi.f, mi.bb⟩, by simp [e14], by simp [e15], by simp [e16], by simp, by omega⟩))
  · simp at hc
    exact Tells.ok (hQ2 _ _ (.inr ⟨by simp, rfl, rfl, ⟨by simp [mi.t5], by simp [mi.t6], by simp [mi.t7], by simp [mi.t8], by simp [mi.t13], mi.o, mi.f, mi.bb⟩, by simp [e14], by simp [e15]⟩))

theorem w13 (hX : OnlyKnown X) {B0 : Nat → BS} {b : Nat} (mi : MI i t g ys tv av bv bf (upB B0 b { B0 b with rd := true }) bz K) (hi : i < 300) (ok : TreeOk ys) (h5 : ys.length ≤ 5) (e14 : t 14 = I b) (e15 : 0 < b → t 15 = I (parF ys b)) (hb : b < ys.length + 1)
    (pq : PQ ys B0) (p : PC ys (upB B0 b { B0 b with rd := true }) bz) (hr : (B0 b).rd = false) {sv : AVal} {side : List Int} (os : Sl intR g sv side) (hl : side.length ≤ 1000) (e16 : t 16 = sv)
    (good : ∀ x, x ∈ side → 0 ≤ x ∧ x ≤ ys.length ∧ (b : Int) ∈ upF ys x) (hQ : QT i ys tv av bv bf K Q) :
    Tells (fun m => J_precentorlaw21_TurnWaits_13 Try.prog (acallX Try.prog X m) m (kT X m) t g) Q := by
  simp [kT, J_precentorlaw21_TurnWaits_13]
  refine Tells.bind (wSide hX (i := i) (a14 := t 14) (a15 := t 15) ⟨by simp [mi.t5], by simp [mi.t6], by simp [mi.t7], by simp [mi.t8], by simp [mi.t13], mi.o, mi.f, mi.bb⟩ h5 os hl (by simp) (by simp) (by simp [e16]) (by simp) fun x hx => ?_) ?_
  · obtain ⟨q1, q2, q3⟩ := good x hx
    obtain ⟨n, rfl⟩ : ∃ n : Nat, x = n := ⟨x.toNat, by omega⟩
    exact ⟨n, rfl, by omega, p.behind ok hb (by rw [upB_self]) (by omega) q3⟩
  · rintro ⟨ex, t2⟩ g2 ⟨rfl, rfl, mi2, e2, e3⟩
    exact w14 hX mi2 hi ok h5 (e2.trans e14) (fun q => e3.trans (e15 q)) hb pq p hr hQ

/-- All brokers, as a row. -/
theorem wAll (hX : OnlyKnown X) (mi : MI i t g ys tv av bv bf B bz K) (h5 : ys.length ≤ 5) {a14 a15 : AVal} (e14 : t 14 = a14) (e15 : t 15 = a15) (e16 : t 16 = .nils) (e17 : t 17 = I 0) :
    Tells (fun m => loopN (L_precentorlaw21_TurnWaits_19 Try.prog (acallX Try.prog X m) m) m t g) fun p g' => p.1 = .exit 4 ∧ MI i p.2 g' ys tv av bv bf B bz K ∧ p.2 14 = a14 ∧ p.2 15 = a15 ∧ ∃ side : List Int, Sl intR g' (p.2 16) side ∧ side.length ≤ 1000 ∧ ∀ x, x ∈ side → 0 ≤ x ∧ x ≤ ys.length := by
  refine Tells.loop (fun n t g' => ∃ (k : Nat) (side : List Int), MI i t g' ys tv av bv bf B bz K ∧ t 14 = a14 ∧ t 15 = a15 ∧ t 17 = I k ∧ k + n = ys.length + 1 ∧ Gl intR g g' (t 16) side ∧ side.length ≤ k ∧ (∀ x, x ∈ side → 0 ≤ x ∧ x ≤ ys.length) ∧ Ext [] g g') ?_ (ys.length + 1) _ _ ⟨0, [], mi, e14, e15, e17, by omega, by rw [e16]; exact Gl.nil, by simp, fun x hx => by simp at hx, .refl⟩
  rintro n t g' ⟨k, side, mi', e14, e15, e17, hk, gs, hl, good, x⟩
  refine Tells.prot fun Q2 hQ2 => ?_
  unfold L_precentorlaw21_TurnWaits_19
  simp [e17, mi'.t6, mi'.o.y.len]
  refine Tells.cb (fun hc => ?_) (fun hc => ?_)
  · simp at hc
    have w : IntKind.i64.wrap ((k : Int) + 1) = k + 1 := wrap_id (by omega) (by omega)
    simp [J_precentorlaw21_TurnWaits_20, e17]
    refine Tells.app1 gs (by rfl) (by rfl) (show intR.rep g' [I k] (k : Int) from rfl) (by rfl) (by rfl) (by omega) (by decide) x.next fun s3 h3 g3 x3 y3 z3 => ?_
    have X3 := y3 [] x
    simp [J_precentorlaw21_TurnWaits_21, e17, w]
    have f3 : Feed h3 bf K := mi'.f.ext x3 fun q => by have := (gs.1.blk _ q).1; rw [mi'.f.m] at this; cases this
    exact Tells.ok (hQ2 _ _ (.inl ⟨rfl, n - 1, by omega, k + 1, side ++ [(k : Int)], ⟨by simp [mi'.t5], by simp [mi'.t6], by simp [mi'.t7], by simp [mi'.t8], by simp [mi'.t13], mi.o.e X3, f3, mi'.bb⟩, by simp [e14], by simp [e15], by simp, by omega, by simpa using g3, by simp; omega, fun z hz => by
      rcases List.mem_append.1 hz with q | q
      · exact good z q
      · simp at q; subst q; omega, X3⟩))
  · simp at hc
    exact Tells.ok (hQ2 _ _ (.inr ⟨by simp, rfl, ⟨by simp [mi'.t5], by simp [mi'.t6], by simp [mi'.t7], by simp [mi'.t8], by simp [mi'.t13], mi'.o, mi'.f, mi'.bb⟩, by simp [e14], by simp [e15], side, by simpa using gs.1, by omega, good⟩))

theorem w12 (hX : OnlyKnown X) {b : Nat} (mi : MI i t g ys tv av bv bf B bz K) (hi : i < 300) (ok : TreeOk ys) (h5 : ys.length ≤ 5) (e14 : t 14 = I b) (e15 : t 15 = I (if 0 < b then parF ys b else -1)) (hb : b < ys.length + 1)
    (pq : PQ ys B) (p : PC ys B bz) (hQ : QT i ys tv av bv bf K Q) :
    Tells (fun m => J_precentorlaw21_TurnWaits_12 Try.prog (acallX Try.prog X m) m (kT X m) t g) Q := by
  obtain ⟨z, hbz⟩ : ∃ z, bz[b]? = some z := ⟨_, List.getElem?_eq_getElem (by rw [mi.o.l]; exact hb)⟩
  obtain ⟨b2, p2, B2, r1, r2, r3⟩ := mi.o.z.atI hbz
  obtain ⟨b7, p7, B7, q1, q2, q3⟩ := mi.o.at hb
  have kl := kidsN_len (b : Int) 0 ys
  have tb := mi.o.t b hb
  simp [kT, J_precentorlaw21_TurnWaits_12, e14, mi.t7, mi.t8, q1, q2, q3, r1, r2, r3]
  refine Tells.cbE (turn_Ready hX tb (by omega) (decide (0 < z))) ?_
  rintro _ h1 ⟨rfl, o1, x1⟩
  have ne := mi.o.f b hb
  have f1 := mi.f.ext x1 (by simpa using ne.1)
  cases hR : ((B b).st && !decide (0 < z) && !(B b).rd && (B b).qs.all id) with
  | false =>
    have e : ((B b).rd || ((B b).st && !decide (0 < z) && (B b).qs.all id)) = (B b).rd := by
      revert hR
      cases (B b).rd <;> cases (B b).st <;> cases (decide (0 < z)) <;> cases ((B b).qs.all id) <;> simp
    rw [e] at o1
    have ws := mi.o.upd hb x1 (by simp) (s := B b) o1 rfl (.inl rfl) rfl ((mi.o.ok b hb).2.ext x1)
    rw [upB_id] at ws
    simp
    exact w10 ⟨by simp [mi.t5], by simp [mi.t6], by simp [mi.t7], by simp [mi.t8], by simp [mi.t13], ws, f1, mi.bb⟩ hi (.inl ⟨p, pq⟩) hQ
  | true =>
    simp only [Bool.and_eq_true, Bool.not_eq_true', decide_eq_false_iff_not] at hR
    obtain ⟨⟨⟨k1, k2⟩, k3⟩, k4⟩ := hR
    have e : ((B b).rd || ((B b).st && !decide (0 < z) && (B b).qs.all id)) = true := by
      rw [k1, k4]; simp [k2]
    rw [e] at o1
    have ws := mi.o.upd hb x1 (by simp) (s := { B b with rd := true }) o1 rfl (.inl rfl) rfl ((mi.o.ok b hb).2.ext x1)
    have pc := p.ready pq hb k1 (fun z' hz' => by rw [hbz] at hz'; cases hz'; omega) k4
    simp [mi.t6, e15, e14]
    refine Tells.bind (tree_Side hX ws.y (by omega) (if 0 < b then parF ys b else -1) (b : Int)) ?_
    rintro v2 h2 ⟨g2, x2⟩
    have fl : (sideF ys (if 0 < b then parF ys b else -1) b).length ≤ ys.length + 1 := by
      unfold sideF
      split
      · exact fromN_len _ _ _
      · simp
    try simp
    refine Tells.app1 g2 (by rfl) (by rfl) (show intR.rep h2 [I b] (b : Int) from rfl) (by rfl) (by rfl) (by omega) (by decide) x2.next fun s3 h3 g3 x3 y3 z3 => ?_
    have X3 := y3 [] x2
    have ws3 := ws.e X3
    have f3 := f1.e X3
    by_cases q : b = 0
    · subst q
      simp [e14]
      refine Tells.bind (wAll hX (i := i) (a14 := I 0) (a15 := t 15) ⟨by simp [mi.t5], by simp [mi.t6], by simp [mi.t7], by simp [mi.t8], by simp [mi.t13], ws3, f3, mi.bb⟩ h5 (by simp [e14]) (by simp) (by simp) (by simp)) ?_
      rintro ⟨ex, t4⟩ g4 ⟨rfl, mi4, e4, _, side, sl, hl, good⟩
      exact w13 hX (b := 0) mi4 hi ok h5 e4 (fun q => by omega) hb pq pc k3 sl hl rfl (fun x hx => ⟨(good x hx).1, (good x hx).2, up_root ok (good x hx).1 (good x hx).2⟩) hQ
    · have hn : ((b : Int) == 0) = false := beq_eq_false_iff_ne.2 (by omega)
      have h0 : 0 < b := by omega
      simp [e14, hn]
      refine w13 hX ⟨by simp [mi.t5], by simp [mi.t6], by simp [mi.t7], by simp [mi.t8], by simp [mi.t13], ws3, f3, mi.bb⟩ hi ok h5 (by simp [e14]) (fun q => by simp [e15, h0]) hb pq pc k3 g3.1 (by simp; omega) (by simp) (fun x hx => ?_) hQ
      rw [if_pos h0] at hx
      rcases List.mem_append.1 hx with q | q
      · exact side_up ok (by omega) (by omega) (by omega) q
      · simp at q
        subst q
        obtain ⟨tl, ht⟩ := U_head ok (b : Int) (by omega) (by omega)
        exact ⟨by omega, by omega, by rw [ht]; simp⟩
end
end Go.Proofs.Ytchmlbjjadlleaa

/-! TurnWaits: the rounds. -/
namespace Go.Proofs.Ytchmlbjjadlleaa
open Go.Ab

section
variable {X : XTab} {i : Nat} {t : T} {g : Heap} {ys : List Int} {tv av bv : AVal} {bf : Nat} {B : Nat → BS} {bz : List Int} {K K' : Nat} {Q : Ex × T → Heap → Prop}

theorem w11 (hX : OnlyKnown X) {b : Nat} (mi : MI i t g ys tv av bv bf B bz K') (hi : i < 300) (ok : TreeOk ys) (h5 : ys.length ≤ 5) (e14 : t 14 = I b) (e15 : t 15 = I (if 0 < b then parF ys b else -1)) (hb : b < ys.length + 1)
    (pq : PQ ys B) (p : PC ys B bz) (hK : K' + 1 ≤ K) (hK2 : K ≤ 10000) (hQ : QT i ys tv av bv bf K Q) :
    Tells (fun m => J_precentorlaw21_TurnWaits_11 Try.prog (acallX Try.prog X m) m (kT X m) t g) Q := by
  obtain ⟨z, hbz⟩ : ∃ z, bz[b]? = some z := ⟨_, List.getElem?_eq_getElem (by rw [mi.o.l]; exact hb)⟩
  obtain ⟨b2, p2, B2, r1, r2, r3⟩ := mi.o.z.atI hbz
  have hz := mi.bb b z hbz
  simp [kT, J_precentorlaw21_TurnWaits_11, e14, mi.t8, r1, r2, r3]
  by_cases q : 0 < z
  · simp [q, mi.t5]
    refine Tells.bind (Next hX 2 (by unfold In64; omega) mi.f (by omega)) ?_
    rintro _ h1 ⟨r, rfl, _, _, _, x1, f1⟩
    have ws := mi.o.feed x1 mi.f.m
    by_cases hr : r = 0
    · subst hr
      obtain ⟨b3, p3, B3, c, k1, k2, k3, k4, k5, k6, k7⟩ := pokeC (r := intR) rfl (fun q => q) ws.z ws.w hbz
      have k6 : c = [I z] := k6
      subst k6
      cases r1.symm.trans k4
      have w : IntKind.i64.wrap (z - 1) = z - 1 := wrap_id (by omega) (by omega)
      have k8 := k5.cell0 (by simp)
      simp at k8
      simp [e14, mi.t8, k4, k5.get, k8, w]
      obtain ⟨h2, s1, s2, s3, _⟩ := k7 0 (I (z - 1)) (z - 1) (by decide) (by rfl) (by rfl) (by rfl)
      simp at s1
      simp only [s1, arb_val]
      try simp
      have ws2 := ws.poke (b := b2) (by rw [k1]; simp) k2 s2 s3 (by simp)
      have f2 : Feed h2 bf K := (f1.extCX s2 k2 (ws.w b2 (by rw [k1]; simp))).mono hK
      refine w12 hX (b := b) (i := i) ⟨by simp [mi.t5], by simp [mi.t6], by simp [mi.t7], by simp [mi.t8], by simp [mi.t13], ws2, f2, fun j y hy => ?_⟩ hi ok h5 (by simp [e14]) (by simp [e15]) hb pq (p.dec hbz) hQ
      rw [List.getElem?_set] at hy
      split at hy
      · split at hy
        · cases hy; omega
        · cases hy
      · exact mi.bb j y hy
    · simp [beq_eq_false_iff_ne.2 hr]
      exact w12 hX (b := b) (i := i) ⟨by simp [mi.t5], by simp [mi.t6], by simp [mi.t7], by simp [mi.t8], by simp [mi.t13], ws, f1.mono hK, mi.bb⟩ hi ok h5 (by simp [e14]) (by simp [e15]) hb pq p hQ
  · simp [q]
    exact w12 hX (b := b) (i := i) ⟨by simp [mi.t5], by simp [mi.t6], by simp [mi.t7], by simp [mi.t8], by simp [mi.t13], mi.o, mi.f.mono (by omega), mi.bb⟩ hi ok h5 (by simp [e14]) (by simp [e15]) hb pq p hQ

theorem w9 (hX : OnlyKnown X) (mi : MI i t g ys tv av bv bf B bz K') (hi : i < 300) (ok : TreeOk ys) (h5 : ys.length ≤ 5) (pq : PQ ys B) (p : PC ys B bz) (hK : K' + 3 ≤ K) (hK2 : K ≤ 10000) (hQ : QT i ys tv av bv bf K Q) :
    Tells (fun m => J_precentorlaw21_TurnWaits_9 Try.prog (acallX Try.prog X m) m okK t g) Q := by
  have w : IntKind.i64.wrap ((ys.length : Int) + 1) = ys.length + 1 := wrap_id (by omega) (by omega)
  simp [J_precentorlaw21_TurnWaits_9, mi.t5, mi.t6, mi.o.y.len, w]
  refine Tells.bind (Next hX ((ys.length : Int) + 1) (by unfold In64; omega) mi.f (by omega)) ?_
  rintro _ h1 ⟨r, rfl, k1, k2, _, x1, f1⟩
  have k2 := k2 (by omega)
  obtain ⟨b, rfl⟩ : ∃ b : Nat, r = b := ⟨r.toNat, by omega⟩
  have hb : b < ys.length + 1 := by omega
  have ws1 := mi.o.feed x1 mi.f.m
  simp [mi.t6]
  refine Tells.bind (tree_Next hX ws1.y (by omega) (b : Int) 0) ?_
  rintro _ h2 ⟨rfl, x2⟩
  have ws := ws1.e x2
  have f2 := f1.e x2
  have eU : nextF ys (b : Int) 0 = if 0 < b then parF ys b else -1 := by
    by_cases q : 0 < b
    · rw [if_pos q]; exact next_up ok (by omega) (by omega) (by omega)
    · rw [if_neg q, show b = 0 by omega]; exact next_root
  rw [eU]
  -- nobody is told
  have plain : ∀ (t' : T) (h' : Heap) (K2 : Nat), WS h' (ys.length + 1) ys tv av bv bf B bz → Feed h' bf K2 → K2 + 1 ≤ K → t' 5 = .ptr bf 0 → t' 6 = tv → t' 7 = av → t' 8 = bv → t' 13 = I i → t' 14 = I b → t' 15 = I (if 0 < b then parF ys b else -1) →
      Tells (fun m => J_precentorlaw21_TurnWaits_11 Try.prog (acallX Try.prog X m) m (kT X m) t' h') Q := fun t' h' K2 o' f' hk a5 a6 a7 a8 a13 a14 a15 => w11 hX (b := b) ⟨a5, a6, a7, a8, a13, o', f', mi.bb⟩ hi ok h5 a14 a15 hb pq p hk hK2 hQ
  by_cases q : b = 0
  · subst q
    simp
    exact plain _ _ _ ws f2 (by omega) (by simp [mi.t5]) (by simp [mi.t6]) (by simp [mi.t7]) (by simp [mi.t8]) (by simp [mi.t13]) (by simp) (by simp)
  · have h0 : 0 < b := by omega
    have hn : (0 : Int) < b := by omega
    have pl := par_lt ok (a := (b : Int)) (by omega) (by omega)
    obtain ⟨u, hu⟩ : ∃ u : Nat, (u : Int) = parF ys b := ⟨(parF ys b).toNat, by omega⟩
    have hul : u < ys.length + 1 := by omega
    obtain ⟨b7, p7, B7, q1, q2, q3⟩ := ws.at hb
    simp [h0, mi.t7, q1, q2, q3]
    refine Tells.bind (turn_Stopped hX (ws.t b hb)) ?_
    rintro _ h3 ⟨rfl, rfl⟩
    cases hs : (B b).st with
    | true =>
      simp
      exact plain _ _ _ ws f2 (by omega) (by simp [mi.t5]) (by simp [mi.t6]) (by simp [mi.t7]) (by simp [mi.t8]) (by simp [mi.t13]) (by simp) (by simp [h0])
    | false =>
      obtain ⟨b8, p8, B8, s1, s2, s3⟩ := ws.at hul
      rw [hu] at s1
      simp [mi.t7, s1, s2, s3]
      refine Tells.bind (turn_Stopped hX (ws.t u hul)) ?_
      rintro _ h4 ⟨rfl, rfl⟩
      cases hs2 : (B u).st with
      | false =>
        simp
        exact plain _ _ _ ws f2 (by omega) (by simp [mi.t5]) (by simp [mi.t6]) (by simp [mi.t7]) (by simp [mi.t8]) (by simp [mi.t13]) (by simp) (by simp [h0])
      | true =>
        simp [mi.t5]
        refine Tells.bind (Next hX 2 (by unfold In64; omega) f2 (by omega)) ?_
        rintro _ h5' ⟨r, rfl, _, _, _, x5, f5⟩
        have ws5 := ws.feed x5 f2.m
        by_cases hr : r = 0
        · subst hr
          obtain ⟨b9, p9, B9, t1, t2, t3⟩ := ws5.at hb
          cases q1.symm.trans t1
          simp [mi.t7, t1, t2, t3]
          refine Tells.bind (turn_Stop hX (ws5.t b hb) 0) ?_
          rintro _ h6 ⟨rfl, o6, x6⟩
          have e0 := p.ep b hb
          have d0 : decide (b = 0) = false := by simp [q]
          rw [hs, e0, d0] at o6
          have o6 : TB h6 ys b { B b with st := true } := by
            unfold TB
            have e1 : ({ B b with st := true } : BS).ep = 0 := e0
            rw [e1, d0]
            exact o6
          have ws6 := ws5.upd hb x6 (by simp) o6 rfl (.inl rfl) rfl ((ws5.ok b hb).2.ext x6)
          have ne := (ws5.f b hb).1
          have f6 := f5.ext x6 (by simpa using ne)
          simp [q, hs, e0]
          exact w11 hX (b := b) (i := i) ⟨by simp [mi.t5], by simp [mi.t6], by simp [mi.t7], by simp [mi.t8], by simp [mi.t13], ws6, f6, mi.bb⟩ hi ok h5 (by simp) (by simp [h0]) hb pq.stop (p.stop hb (by rw [← hu]; simpa using hs2)) (by omega) hK2 hQ
        · simp [beq_eq_false_iff_ne.2 hr]
          exact plain _ _ _ ws5 f5 (by omega) (by simp [mi.t5]) (by simp [mi.t6]) (by simp [mi.t7]) (by simp [mi.t8]) (by simp [mi.t13]) (by simp) (by simp [h0])

theorem rounds (hX : OnlyKnown X) (mi : MI 0 t g ys tv av bv bf B bz 2000) (ok : TreeOk ys) (h5 : ys.length ≤ 5) (pq : PQ ys B) (p : PC ys B bz) :
    Tells (fun m => loopN (L_precentorlaw21_TurnWaits_8 Try.prog (acallX Try.prog X m) m) m t g) fun r g' => r.1 = .exit 2 ∧ ∃ i B bz K, MI i r.2 g' ys tv av bv bf B bz K ∧ (PC ys B bz ∧ PQ ys B ∨ Fin21 ys B) := by
  refine Tells.loop (fun n t g => ∃ i B bz, MI i t g ys tv av bv bf B bz (2000 + 4 * i) ∧ (PC ys B bz ∧ PQ ys B ∨ Fin21 ys B) ∧ i + n = 301) ?_ 301 _ _ ⟨0, B, bz, mi, .inl ⟨p, pq⟩, by omega⟩
  rintro n t g ⟨i, B, bz, mi, pp, hn⟩
  refine Tells.prot fun Q2 hQ2 => ?_
  unfold L_precentorlaw21_TurnWaits_8
  have fin : ∀ t', t' 5 = .ptr bf 0 → t' 6 = tv → t' 7 = av → t' 8 = bv → t' 13 = I i → Q2 (.exit 2, t') g := fun t' a5 a6 a7 a8 a13 => hQ2 _ _ (.inr ⟨by simp, rfl, i, B, bz, _, ⟨a5, a6, a7, a8, a13, mi.o, mi.f, mi.bb⟩, pp⟩)
  simp [mi.t13]
  by_cases hi : i < 300
  · have hi2 : (i : Int) < 300 := by omega
    obtain ⟨b7, p7, B7, q1, q2, q3⟩ := mi.o.at (i := 0) (by omega)
    simp at q1
    simp [hi2, mi.t7, q1, q2, q3]
    refine Tells.bind (turn_Epoch hX (mi.o.t 0 (by omega))) ?_
    rintro _ h1 ⟨rfl, rfl⟩
    rcases pp with ⟨p, pq⟩ | pf
    · simp [p.ep 0 (by omega)]
      refine w9 hX (K := 2000 + 4 * (i + 1)) ⟨by simp [mi.t5], by simp [mi.t6], by simp [mi.t7], by simp [mi.t8], by simp [mi.t13], mi.o, mi.f, mi.bb⟩ hi ok h5 pq p (by omega) (by omega) fun t' g' B' bz' mi' pp' => hQ2 _ _ (.inl ⟨rfl, n - 1, by omega, i + 1, B', bz', mi', pp', by omega⟩)
    · simp [pf.e0]
      exact Tells.ok (fin _ (by simp [mi.t5]) (by simp [mi.t6]) (by simp [mi.t7]) (by simp [mi.t8]) (by simp [mi.t13]))
  · have hi2 : ¬ (i : Int) < 300 := by omega
    simp [hi2]
    exact Tells.ok (fin _ (by simp [mi.t5]) (by simp [mi.t6]) (by simp [mi.t7]) (by simp [mi.t8]) (by simp [mi.t13]))
end
end Go.Proofs.Ytchmlbjjadlleaa

/-! Law TurnWaits: the walk. -/
namespace Go.Proofs.Ytchmlbjjadlleaa
open Go.Ab

section
variable {X : XTab} {i : Nat} {t : T} {g : Heap} {ys : List Int} {tv av bv : AVal} {bf : Nat} {B : Nat → BS} {bz : List Int} {K K' : Nat}

/-- All others open. -/
theorem wOpen (hX : OnlyKnown X) (h5 : ys.length ≤ 5) (o : WS g (ys.length + 1) ys tv av bv bf B bz) (f : Feed g bf K) (e6 : t 6 = tv) (e7 : t 7 = av) (e21 : t 21 = I 1) (pf : Fin21 ys B) :
    Tells (fun m => loopN (L_precentorlaw21_TurnWaits_4 Try.prog (acallX Try.prog X m) m) m t g) fun r g' => r.1 = .exit 8 := by
  refine Tells.loop (fun n t g => ∃ (b : Nat) (B : Nat → BS), WS g (ys.length + 1) ys tv av bv bf B bz ∧ Feed g bf K ∧ t 6 = tv ∧ t 7 = av ∧ t 21 = I b ∧ 0 < b ∧ b + n = ys.length + 2 ∧ ∀ i, b ≤ i → i < ys.length + 1 → (B i).st = true ∧ (B i).ep = 0 ∧ (B i).pv = .nils ∧ (B i).cs = []) ?_ (ys.length + 1) _ _ ⟨1, B, o, f, e6, e7, e21, by omega, by omega, fun i h0 hi => pf.r i (by omega) hi⟩
  rintro n t g ⟨b, B, o, f, e6, e7, e21, h0, hn, hr⟩
  refine Tells.prot fun Q2 hQ2 => ?_
  unfold L_precentorlaw21_TurnWaits_4
  simp [e21, e6, o.y.len]
  refine Tells.cb (fun hc => ?_) (fun hc => ?_)
  · simp at hc
    have hb : b < ys.length + 1 := by omega
    obtain ⟨b7, p7, B7, q1, q2, q3⟩ := o.at hb
    obtain ⟨k1, k2, k3, k4⟩ := hr b (by omega) hb
    have kl := kidsN_len (b : Int) 0 ys
    have w : IntKind.i64.wrap ((b : Int) + 1) = b + 1 := wrap_id (by omega) (by omega)
    simp [J_precentorlaw21_TurnWaits_5, e7, e21, q1, q2, q3]
    refine Tells.bind (turn_Open hX (o.t b hb) (by rw [k2]; omega) (by omega) 1) ?_
    rintro _ h1 ⟨x1, ⟨_, _, rfl, sc, bq', l', o'⟩ | ⟨q, _⟩⟩
    · have nl : Off h1 bv .nils := .nil
      have ws := o.upd hb x1 (by simp) (s := { B b with bq := bq', qs := List.replicate (kidsN (b : Int) 0 ys).length false, ep := 1, st := false, rd := false, pv := .nils, cs := [] }) o' rfl (.inr ⟨l', f.lt⟩) rfl nl
      have ne := (o.f b hb).1
      have f1 := f.ext x1 (by simpa using ne)
      rw [k4] at sc
      obtain ⟨b8, p8, B8, s1, s2, s3⟩ := ws.at hb
      cases q1.symm.trans s1
      rw [upB_self] at s3
      have s3 : B8[p7]? = some (.ptr (B b).bt 0) := s3
      have tb := ws.t b hb
      rw [upB_self] at tb
      simp [extR, sc.len, J_precentorlaw21_TurnWaits_7, e7, e21, q1, s2, s3]
      refine Tells.bind (turn_Open hX tb (by show (0:Int) ≤ 1 ∧ (1:Int) ≤ 2 ^ 20; omega) (by omega) 1) ?_
      rintro _ h2 ⟨x2, ⟨q, _⟩ | ⟨_, rfl, rfl⟩⟩
      · exact absurd q (by simp)
      · simp [extR, e7, e21, q1, s2, s3]
        refine Tells.bind (turn_Stopped hX tb) ?_
        rintro _ h3 ⟨rfl, rfl⟩
        simp [e7, e21, q1, s2, s3]
        refine Tells.bind (turn_Epoch hX tb) ?_
        rintro _ h3 ⟨rfl, rfl⟩
        simp [J_precentorlaw21_TurnWaits_6, e21, w]
        refine Tells.ok (hQ2 _ _ (.inl ⟨rfl, n - 1, by omega, b + 1, _, ws, f1, by simp [e6], by simp [e7], by simp, by omega, by omega, fun i hi1 hi2 => ?_⟩))
        rw [upB_ne _ _ (by omega)]
        exact hr i (by omega) hi2
    · exact absurd ⟨k1, by rw [k2]; rfl⟩ q
  · simp at hc
    exact Tells.ok (hQ2 _ _ (.inr ⟨by simp, rfl⟩))

set_option maxRecDepth 20000
theorem turnWaits_ (hX : OnlyKnown X) (hk : X F_precentorlaw21_known [] = some (.bool true)) {h : Heap} {v1 v2 : AVal} {xs1 xs2 : List Int} (r1 : RawInts h v1 xs1) (r2 : RawInts h v2 xs2) :
    Tells (fun m => acallX Try.prog X m F_precentorlaw21_TurnWaits [v1, v2] h) fun r h' => r = .bool true := by
  refine R_precentorlaw21_TurnWaits _ _ (hX _ _ rfl) ?_
  refine Tells.prot fun Q' hQ => ?_
  unfold S_precentorlaw21_TurnWaits
  simp [bldR, fillR, splice, r1.sl.known, r1.sl.cells]
  refine Tells.box rfl rfl fun h1 bf f1 x1 l1 => ?_
  try simp
  have rr := r1.ext x1
  have fd : Feed h1 bf 0 := ⟨v1, 0, xs1, f1, by omega, by omega, rr.sl, rr.small, rr.old⟩
  refine Tells.bind (Tree hX 6 ⟨by omega, by omega⟩ (by omega) fd (by omega)) ?_
  rintro tv h2 ⟨ys, gy, ok, hlt, _, x2, f2⟩
  have h5 : ys.length ≤ 5 := by have := hlt (by omega); omega
  have oy := gy.1
  have r2' := (r2.ext x1).ext x2
  try simp
  refine Tells.bind (waits_make hX (ys := ys) (tv := tv) ok h5 r2' f2.lt (by simp) (by simp) (by simp) (by simp) (by simp) (by simp) oy) ?_
  rintro ⟨ex, t3⟩ h3 ⟨rfl, av, bv, B, bz, iv⟩
  have f3 := f2.e iv.x
  have iv7 : t3 7 = av := iv.t7
  have iv5 : t3 5 = .ptr bf 0 := iv.t5
  have iv6 : t3 6 = tv := iv.t6
  have iv8 : t3 8 = bv := iv.t8
  have hb : 0 < ys.length + 1 := by omega
  have fr := fun i hi => iv.fr i hi
  simp [J_precentorlaw21_TurnWaits_0]
  refine Tells.bind (known_X hk h3) ?_
  rintro _ h4 ⟨rfl, rfl⟩
  obtain ⟨b7, p7, B7, q1, q2, q3⟩ := iv.o.at hb
  simp at q1
  simp [iv7, q1, q2, q3, bldR, fillR, splice]
  obtain ⟨g1, g2, g3, g4, g5, g6⟩ := fr 0 hb
  have t0 : TP h4 (B 0).bt (B 0).bq true (B 0).kv (kidsN ((0 : Nat) : Int) 0 ys) (B 0).qs (B 0).ep (B 0).st (B 0).rd .nils [] := by
    have := iv.o.t 0 hb
    unfold TB at this
    rw [g5, g6] at this
    exact this
  refine Tells.bind (turn_AddW hX t0 (false, 2, 1)) ?_
  rintro _ h5' ⟨rfl, ⟨pv, o5, w5⟩, x5⟩
  have o5' : TB h5' ys 0 { B 0 with pv := pv, cs := [(false, 2, 1)] } := o5
  have ws5 := iv.o.upd hb x5 (by simp) o5' rfl (.inl rfl) rfl (Off.new w5 (fun d hd => (iv.o.z.blk d hd).2) x5.next)
  have f5 := f3.ext x5 (by simpa using (iv.o.f 0 hb).1)
  obtain ⟨b8, p8, B8, s1, s2, s3⟩ := ws5.at hb
  simp at s1
  cases q1.symm.trans s1
  rw [upB_self] at s3
  have s3 : B8[p7]? = some (.ptr (B 0).bt 0) := s3
  simp [iv7, s1, s2, s3]
  refine Tells.bind (turn_Begin hX o5) ?_
  rintro _ h6 ⟨rfl, o6, x6⟩
  have t6 := ws5.t 0 hb
  have o6' : TB h6 ys 0 { { B 0 with pv := pv, cs := [(false, 2, 1)] } with st := true } := by
    unfold TB
    simpa [g3] using o6
  have ws6 := ws5.upd (s := { { B 0 with pv := pv, cs := [(false, 2, 1)] } with st := true }) hb x6 (by rw [upB_self]; simp) o6' (by rw [upB_self]) (.inl (by rw [upB_self])) (by rw [upB_self]) (by have := (ws5.ok 0 hb).2.ext x6; rw [upB_self] at this; exact this)
  have f6 := f5.ext x6 (by simpa using (iv.o.f 0 hb).1)
  have one : upB (upB B 0 { B 0 with pv := pv, cs := [(false, 2, 1)] }) 0 { { B 0 with pv := pv, cs := [(false, 2, 1)] } with st := true } = upB B 0 { B 0 with pv := pv, cs := [(false, 2, 1)], st := true } := by
    funext i
    by_cases q : i = 0
    · subst q; rw [upB_self, upB_self]
    · rw [upB_ne _ _ q, upB_ne _ _ q, upB_ne _ _ q]
  rw [one] at ws6
  have rd0 : ∀ i, i < ys.length + 1 → (upB B 0 { B 0 with pv := pv, cs := [(false, 2, 1)], st := true } i).rd = false := fun i hi => by
    rw [upB_f (s := { B 0 with pv := pv, cs := [(false, 2, 1)], st := true }) BS.rd rfl]; exact (fr i hi).2.2.2.1
  have pc : PC ys (upB B 0 { B 0 with pv := pv, cs := [(false, 2, 1)], st := true }) bz := by
    refine ⟨fun i hi => ?_, fun i h0 hi hs => ?_, fun i hi hr => ?_, fun i h0 hi => ?_, by rw [upB_self]; rfl⟩
    · rw [upB_f (s := { B 0 with pv := pv, cs := [(false, 2, 1)], st := true }) BS.ep rfl]; exact (fr i hi).2.1
    · rw [upB_ne _ _ (by omega), (fr i hi).2.2.1] at hs; cases hs
    · rw [rd0 i hi] at hr; cases hr
    · rw [upB_ne _ _ (by omega)]; exact ⟨(fr i hi).2.2.2.2.1, (fr i hi).2.2.2.2.2⟩
  have pq : PQ ys (upB B 0 { B 0 with pv := pv, cs := [(false, 2, 1)], st := true }) := fun i hi => by
    rw [upB_f (s := { B 0 with pv := pv, cs := [(false, 2, 1)], st := true }) BS.qs rfl, (fr i hi).1]
    refine (List.eq_replicate_iff.2 ⟨by simp, fun x hx => ?_⟩).symm
    obtain ⟨z, hz, rfl⟩ := List.mem_map.1 hx
    have := kid_par hz
    exact rd0 _ (by omega)
  simp [g3, J_precentorlaw21_TurnWaits_1]
  refine Tells.bind (rounds hX (B := upB B 0 { B 0 with pv := pv, cs := [(false, 2, 1)], st := true }) (bz := bz) (tv := tv) (av := av) (bv := bv) (bf := bf) ⟨by simp [iv5], by simp [iv6], by simp [iv7], by simp [iv8], by simp, ws6, f6.mono (by omega), iv.bb⟩ ok h5 pq pc) ?_
  rintro ⟨ex, t7⟩ h7 ⟨rfl, i7, B2, bz2, K2, mi, pp⟩
  have mi7 : t7 7 = av := mi.t7
  have mi6 : t7 6 = tv := mi.t6
  obtain ⟨b9, p9, B9, r1, r2, r3⟩ := mi.o.at hb
  simp at r1
  simp [J_precentorlaw21_TurnWaits_2, mi7, r1, r2, r3]
  refine Tells.bind (turn_Epoch hX (mi.o.t 0 hb)) ?_
  rintro _ h8 ⟨rfl, rfl⟩
  rcases pp with ⟨p, _⟩ | pf
  · simp [p.ep 0 hb, J_precentorlaw21_TurnWaits_3]
    exact Tells.ok (hQ _ _ rfl)
  · simp [pf.e0]
    refine Tells.bind (wOpen hX h5 mi.o mi.f (by simp [mi6]) (by simp [mi7]) (by simp) pf) ?_
    rintro ⟨ex, t9⟩ h9 rfl
    simp [J_precentorlaw21_TurnWaits_3]
    exact Tells.ok (hQ _ _ rfl)
end
end Go.Proofs.Ytchmlbjjadlleaa
