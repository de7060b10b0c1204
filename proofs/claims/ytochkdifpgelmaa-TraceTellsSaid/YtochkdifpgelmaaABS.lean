/-
  The abstract machine in continuations, each of which is written once: the form that a program of ours prints (S-form), and that what it tells the machine tells.
-/
import Derived.Test.YtochkdifpgelmaaABX
import Derived.Test.YtochkdifpgelmaaABK
set_option linter.unusedVariables false
set_option linter.unusedSimpArgs false
namespace Go.Ab

section
variable {α β γ : Type}

abbrev Kn (β : Type) := Ex → T → Heap → Res β

/-! (Numbers without a use, so that the kernel unfolds what they stand in ahead of the rest.) -/
def hi0 : Nat := 0
def hi1 : Nat := hi0
def hi2 : Nat := hi1
def hi3 : Nat := hi2
def hi4 : Nat := hi3
def hi5 : Nat := hi4
def hi6 : Nat := hi5
def hi7 : Nat := hi6
def hi8 : Nat := hi7
def hi9 : Nat := hi8

def lt (x : α) (f : α → Res β) : Res β := f x
def sqK (f : T → Heap → Res β) (k : Kn β) : Kn β := fun ex t h => (fun _ => match ex with
  | .normal => f t h
  | .exit i => k (.exit i) t h
  | .ret => k .ret t h) hi9
def blkK (id : Nat) (k : Kn β) : Kn β := fun ex t h => (fun _ => match ex with
  | .exit i => if i = id then k .normal t h else k (.exit i) t h
  | .normal => k .normal t h
  | .ret => k .ret t h) hi9
def retK (P : Program) (rs : List ResultVar) : Kn AVal := fun ex t h => match ex with
  | .exit _ => .fail
  | .normal => resK P t h rs fun l => .ok (oneOrTup l) h
  | .ret => resK P t h rs fun l => .ok (oneOrTup l) h
def okK : Kn (Ex × T) := fun ex t h => .ok (ex, t) h
def lpK (k : Kn β) : Ex × T → Heap → Res β := fun r h => k r.1 r.2 h

/-- Is it wanted? -/
def wantB (g : AVal) (want : Bool) : Option Bool := match g with
  | .bool b => some (b == want)
  | .tup [] => some false
  | _ => none
def gd (w : Option Bool) (r : (AVal → Heap → Res β) → Res β) (h : Heap) (k : AVal → Heap → Res β) : Res β := match w with
  | some true => r k
  | some false => k aUndef h
  | none => .fail
def gdr (w : Option Bool) (r : (Bool → AVal → Heap → Res β) → Res β) (h : Heap) (k : Bool → AVal → Heap → Res β) : Res β := match w with
  | some true => r k
  | some false => k false aUndef h
  | none => .fail
def ifb (b : Bool) (r : Res β) : Res β := match b with
  | true => r
  | false => .fail
def obv (X : AR) (k : AVal → Res β) : Res β := match arVal X with
  | some v => k v
  | none => .fail
def arbV (X : AR) (k : AVal → Heap → Res β) : Res β := match X with
  | .val v h => k v h
  | _ => .fail
def cbE (r : Res AVal) (k : AVal → Heap → Res β) : Res β := match r with
  | .ok v h => k v h
  | _ => .fail
def arbE (X : AR) (call : FuncId → List AVal → Heap → Res AVal) (k : AVal → Heap → Res β) : Res β := match X with
  | .val v h => k v h
  | .call f args h => cbE (call f args h) k
  | _ => .fail

/-! ### no more is told -/

def Le (r s : Res β) : Prop := r = .fail ∨ r = s
theorem Le.refl (r : Res β) : Le r r := .inr rfl
theorem Le.of_eq {r s : Res β} (h : r = s) : Le r s := .inr h
theorem Le.fail {s : Res β} : Le .fail s := .inl rfl
theorem Le.trans {r s u : Res β} (a : Le r s) (b : Le s u) : Le r u := by
  rcases a with a | a
  · exact .inl a
  · subst a; exact b
theorem Le.ok {r s : Res β} (a : Le r s) {v : β} {h : Heap} (e : r = .ok v h) : s = .ok v h := by
  rcases a with a | a
  · rw [a] at e; cases e
  · rw [← a]; exact e
theorem Le.bind {r s : Res α} {f g : α → Heap → Res β} (a : Le r s) (b : ∀ v h, Le (f v h) (g v h)) : Le (r.bind f) (s.bind g) := by
  rcases a with a | a
  · subst a; exact .fail
  · subst a
    cases r with
    | ok v h => exact b v h
    | pan v h => exact .refl _
    | fail => exact .refl _
theorem Le.arb (X : AR) (call : FuncId → List AVal → Heap → Res AVal) {f g : AVal → Heap → Res β} (b : ∀ v h, Le (f v h) (g v h)) : Le (arb X call f) (arb X call g) := by
  cases X with
  | val v h => exact b v h
  | call f args h => exact Le.bind (.refl _) b
  | pan v h => exact .refl _
  | fail => exact .refl _
theorem Le.cb (c : AVal) {x y x' y' : Res β} (a : Le x x') (b : Le y y') : Le (cb c x y) (cb c x' y') := by
  unfold Go.Ab.cb
  split
  · exact a
  · exact b
  · exact .refl _
theorem Le.loopN {f g : T → Heap → Res (Ex × T)} (a : ∀ t h, Le (f t h) (g t h)) : ∀ n t h, Le (loopN f n t h) (loopN g n t h)
  | 0, t, h => .refl _
  | n + 1, t, h => by
    simp only [Go.Ab.loopN]
    refine (a t h).bind fun r h' => ?_
    obtain ⟨ex, t'⟩ := r
    cases ex with
    | normal => exact Le.loopN a n t' h'
    | exit i => exact .refl _
    | ret => exact .refl _

/-! ### regions in order -/

def guardV (all : Array Oper) (t : T) (j : Nat) : AVal := match all[j]? with
  | some g => match g.dst with
    | some d => t d
    | none => .opq
  | none => .opq

theorem wanted_eq (all : Array Oper) (t : T) (o : Oper) : aWanted all t o = match o.guard with
    | none => some true
    | some (j, want) => wantB (guardV all t j) want := by
  unfold aWanted
  cases o.guard with
  | none => rfl
  | some q =>
    obtain ⟨j, want⟩ := q
    simp only [guardV]
    cases all[j]? with
    | none => rfl
    | some g =>
      simp only
      cases g.dst with
      | none => rfl
      | some d => rfl

variable (P : Program) (call : FuncId → List AVal → Heap → Res AVal) (fuel nt : Nat)

def seqR (all : Array Oper) : List Oper → T → Heap → (T → Heap → Res β) → Res β
  | [], t, h, k => k t h
  | o :: rest, t, h, k => match o.guard with
    | none => arb (aOp P (aEval t) h o) call fun v h' => match putT nt t o.dst v with
      | some t' => seqR all rest t' h' k
      | none => .fail
    | some (j, want) => gd (wantB (guardV all t j) want) (fun c => arb (aOp P (aEval t) h o) call c) h fun v h' => match putT nt t o.dst v with
      | some t' => seqR all rest t' h' k
      | none => .fail

theorem seqR_eq (all : Array Oper) : ∀ (l : List Oper) (t : T) (h : Heap) (k : T → Heap → Res β), seqR P call nt all l t h k = seqK P call nt all l t h k
  | [], t, h, k => rfl
  | o :: rest, t, h, k => by
    simp only [seqR, seqK, wanted_eq]
    have ih : (fun v h' => match putT nt t o.dst v with
      | some t' => seqR P call nt all rest t' h' k
      | none => .fail) = fun v h' => match putT nt t o.dst v with
      | some t' => seqK P call nt all rest t' h' k
      | none => .fail := by
      funext v h'
      cases putT nt t o.dst v with
      | none => rfl
      | some t' => exact seqR_eq all rest t' h' k
    cases hg : o.guard with
    | none => simp only; rw [ih]; rfl
    | some q =>
      obtain ⟨j, want⟩ := q
      simp only
      rw [ih]
      cases hw : wantB (guardV all t j) want with
      | none => rfl
      | some b => cases b <;> rfl

/-! ### regions whose order is open -/

structure DrR where
  al : List (Bool × Nat × Nat)
  ef : List (Bool × Nat × List (Bool × Nat × Nat) × Heap)
  rd : List (Bool × Nat × T × Oper × AVal)

def fl {δ : Type} : List (Bool × δ) → List δ
  | [] => []
  | (true, x) :: r => x :: fl r
  | (false, _) :: r => fl r
def flEf : List (Bool × Nat × List (Bool × Nat × Nat) × Heap) → List (Nat × List (Nat × Nat) × Heap)
  | [] => []
  | (true, j, al, h) :: r => (j, fl al, h) :: flEf r
  | (false, _, _, _) :: r => flEf r
def DrR.fl (D : DrR) : Dr := ⟨Go.Ab.fl D.al, flEf D.ef, Go.Ab.fl D.rd⟩

def killIf (w : Bool) (h : Heap) (id : Nat) : Heap := match w with
  | true => h.kill id
  | false => h
def setIf (w : Bool) (h old : Heap) (id : Nat) : Heap := match w with
  | true => h.setB id (old.get id)
  | false => h

def maskR (b : Array Nat) (i : Nat) : List (Bool × Nat × Nat) → Heap → Heap
  | [], h => h
  | (w, j, id) :: r, h => match ahead b j i with
    | true => maskR b i r h
    | false => maskR b i r (killIf w h id)
def unmaskR (b : Array Nat) (i : Nat) (old : Heap) : List (Bool × Nat × Nat) → Heap → Heap
  | [], h => h
  | (w, j, id) :: r, h => match ahead b j i with
    | true => unmaskR b i old r h
    | false => unmaskR b i old r (setIf w h old id)

theorem maskR_eq (b : Array Nat) (i : Nat) : ∀ (l : List (Bool × Nat × Nat)) (h : Heap), maskR b i l h = maskH b i (fl l) h
  | [], h => rfl
  | (true, j, id) :: r, h => by
    simp only [maskR, fl, maskH, killIf]
    cases ahead b j i
    · exact maskR_eq b i r _
    · exact maskR_eq b i r _
  | (false, j, id) :: r, h => by
    simp only [maskR, fl, killIf]
    cases ahead b j i <;> exact maskR_eq b i r _
theorem unmaskR_eq (b : Array Nat) (i : Nat) (old : Heap) : ∀ (l : List (Bool × Nat × Nat)) (h : Heap), unmaskR b i old l h = unmask b i old (fl l) h
  | [], h => rfl
  | (true, j, id) :: r, h => by
    simp only [unmaskR, fl, unmask, setIf]
    cases ahead b j i
    · exact unmaskR_eq b i old r _
    · exact unmaskR_eq b i old r _
  | (false, j, id) :: r, h => by
    simp only [unmaskR, fl, setIf]
    cases ahead b j i <;> exact unmaskR_eq b i old r _

def efR (b : Array Nat) (i : Nat) (t : T) (o : Oper) (v : AVal) : List (Bool × Nat × List (Bool × Nat × Nat) × Heap) → Bool
  | [] => true
  | (w, k, al, h) :: r => match ahead b k i with
    | true => efR b i t o v r
    | false => (!w || isV v (arVal (aOp P (aEval t) (maskR b i al h) o))) && efR b i t o v r
def rdR (b : Array Nat) (k : Nat) (al : List (Bool × Nat × Nat)) (h : Heap) : List (Bool × Nat × T × Oper × AVal) → Bool
  | [] => true
  | (w, i, t, o, v) :: r => match ahead b i k with
    | true => rdR b k al h r
    | false => (!w || isV v (arVal (aOp P (aEval t) (maskR b i al h) o))) && rdR b k al h r
def efAllR (b : Array Nat) (k : Nat) : List (Bool × Nat × List (Bool × Nat × Nat) × Heap) → Bool
  | [] => true
  | (w, j, _, _) :: r => match ahead b j k with
    | true => efAllR b k r
    | false => !w && efAllR b k r

theorem efR_eq (b : Array Nat) (i : Nat) (t : T) (o : Oper) (v : AVal) : ∀ l, efR P b i t o v l = efOk P b i t o v (flEf l)
  | [] => rfl
  | (true, k, al, h) :: r => by
    simp only [efR, flEf, efOk, readAgain, maskR_eq, efR_eq b i t o v r]
    cases ahead b k i <;> simp
  | (false, k, al, h) :: r => by
    simp only [efR, flEf, efR_eq b i t o v r]
    cases ahead b k i <;> simp
theorem rdR_eq (b : Array Nat) (k : Nat) (al : List (Bool × Nat × Nat)) (h : Heap) : ∀ l, rdR P b k al h l = rdOk P b k (fl al) h (fl l)
  | [] => rfl
  | (true, i, t, o, v) :: r => by
    simp only [rdR, fl, rdOk, readAgain, maskR_eq, rdR_eq b k al h r]
    cases ahead b i k <;> simp
  | (false, i, t, o, v) :: r => by
    simp only [rdR, fl, rdR_eq b k al h r]
    cases ahead b i k <;> simp
theorem efAllR_eq (b : Array Nat) (k : Nat) : ∀ l, efAllR b k l = efAll b k (flEf l)
  | [] => rfl
  | (true, j, al, h) :: r => by
    simp only [efAllR, flEf, efAll, efAllR_eq b k r]
    cases ahead b j k <;> simp
  | (false, j, al, h) :: r => by
    simp only [efAllR, flEf, efAllR_eq b k r]
    cases ahead b j k <;> simp

/-- What one operation of such a region does, where it is wanted; then: is it so that the looks allow it, its value, the heap behind it. -/
def opR (b : Array Nat) (o : Oper) (i : Nat) (D : DrR) (t : T) (h : Heap) (k : AVal → Heap → Res β) : Res β := match opKind P o with
  | .pure => obv (aOp P (aEval t) h o) fun v => k v h
  | .read => obv (aOp P (aEval t) (maskR b i D.al h) o) fun v => ifb (efR P b i t o v D.ef) (k v h)
  | .alloc => arbV (aOp P (aEval t) h o) fun v h' => k v h'
  | .eff => arbE (aOp P (aEval t) (maskR b i D.al h) o) call fun v h2 => lt (unmaskR b i h D.al h2) fun h3 => ifb (efAllR b i D.ef && rdR P b i D.al h3 D.rd) (k v h3)
  | .bar => .fail

def nextR (o : Oper) (i : Nat) (D : DrR) (t : T) (h : Heap) (w : Bool) (v : AVal) : DrR := match opKind P o with
  | .pure => D
  | .read => { D with rd := (w, i, t, o, v) :: D.rd }
  | .alloc => { D with al := (w, i, h.next) :: D.al }
  | .eff => { D with ef := (w, i, D.al, h) :: D.ef }
  | .bar => D

def drawR (all : Array Oper) (b : Array Nat) : List Oper → Nat → DrR → T → Heap → (T → Heap → Res β) → Res β
  | [], _, _, t, h, k => k t h
  | o :: rest, i, D, t, h, k => match o.guard with
    | none => opR P call b o i D t h fun v h' => match putT nt t o.dst v with
      | some t' => drawR all b rest (i + 1) (nextR P o i D t h true v) t' h' k
      | none => .fail
    | some (j, want) => gdr (wantB (guardV all t j) want) (fun c => opR P call b o i D t h (c true)) h fun w v h' => match putT nt t o.dst v with
      | some t' => drawR all b rest (i + 1) (nextR P o i D t h w v) t' h' k
      | none => .fail

theorem Le.ifb (b : Bool) {r s : Res β} (a : b = true → Le r s) : Le (ifb b r) s := by
  cases b
  · exact .fail
  · exact a rfl

theorem nextR_false (o : Oper) (i : Nat) (D : DrR) (t : T) (h : Heap) (v : AVal) : (nextR P o i D t h false v).fl = D.fl := by
  unfold nextR
  cases opKind P o <;> rfl

theorem drawR_le (all : Array Oper) (b : Array Nat) : ∀ (l : List Oper) (i : Nat) (D : DrR) (t : T) (h : Heap) (k : T → Heap → Res β),
    Le (drawR P call nt all b l i D t h k) ((drawOps P call nt all b l i D.fl t h).bind k)
  | [], i, D, t, h, k => .refl _
  | o :: rest, i, D, t, h, k => by
    have main : aWanted all t o = some true → Le (opR P call b o i D t h fun v h' => match putT nt t o.dst v with
        | some t' => drawR P call nt all b rest (i + 1) (nextR P o i D t h true v) t' h' k
        | none => .fail) ((drawOps P call nt all b (o :: rest) i D.fl t h).bind k) := by
      intro hw
      simp only [drawOps, hw, opR, nextR]
      cases hk : opKind P o with
      | pure =>
        simp only [obv]
        cases arVal (aOp P (aEval t) h o) with
        | none => exact .fail
        | some v =>
          simp only
          cases putT nt t o.dst v with
          | none => exact .fail
          | some t' => exact drawR_le all b rest (i + 1) D t' h k
      | read =>
        simp only [obv, maskR_eq, DrR.fl]
        cases arVal (aOp P (aEval t) (maskH b i (fl D.al) h) o) with
        | none => exact .fail
        | some v =>
          simp only
          refine Le.ifb _ fun hb => ?_
          rw [efR_eq] at hb
          cases putT nt t o.dst v with
          | none => exact .fail
          | some t' =>
            simp only [hb, if_true]
            exact drawR_le all b rest (i + 1) { D with rd := (true, i, t, o, v) :: D.rd } t' h k
      | alloc =>
        simp only [arbV]
        cases aOp P (aEval t) h o with
        | val v h' =>
          simp only
          cases putT nt t o.dst v with
          | none => exact .fail
          | some t' => exact drawR_le all b rest (i + 1) { D with al := (true, i, h.next) :: D.al } t' h' k
        | _ => exact .fail
      | eff =>
        simp only [arbE, aStep, maskR_eq, DrR.fl, lt, unmaskR_eq, efAllR_eq, rdR_eq]
        have go : ∀ v h2, Le (ifb (efAll b i (flEf D.ef) && rdOk P b i (fl D.al) (unmask b i h (fl D.al) h2) (fl D.rd)) (match putT nt t o.dst v with
              | some t' => drawR P call nt all b rest (i + 1) { D with ef := (true, i, D.al, h) :: D.ef } t' (unmask b i h (fl D.al) h2) k
              | none => .fail)) ((match putT nt t o.dst v with
              | some t' => if efAll b i (flEf D.ef) && rdOk P b i (fl D.al) (unmask b i h (fl D.al) h2) (fl D.rd) then
                drawOps P call nt all b rest (i + 1) { al := fl D.al, ef := (i, fl D.al, h) :: flEf D.ef, rd := fl D.rd } t' (unmask b i h (fl D.al) h2) else .fail
              | none => .fail : Res T).bind k) := by
          intro v h2
          refine Le.ifb _ fun hb => ?_
          cases putT nt t o.dst v with
          | none => exact .fail
          | some t' =>
            simp only [hb, if_true]
            exact drawR_le all b rest (i + 1) { D with ef := (true, i, D.al, h) :: D.ef } t' _ k
        cases aOp P (aEval t) (maskH b i (fl D.al) h) o with
        | val v h2 => exact go v h2
        | call f args h2 =>
          simp only [cbE]
          cases call f args h2 with
          | ok v h3 => exact go v h3
          | _ => exact .fail
        | _ => exact .fail
      | bar => exact .fail
    rw [drawR]
    cases hg : o.guard with
    | none =>
      refine main ?_
      rw [wanted_eq, hg]
    | some q =>
      obtain ⟨j, want⟩ := q
      simp only
      cases hw : wantB (guardV all t j) want with
      | none => exact .fail
      | some w =>
        have hw' : aWanted all t o = some w := by rw [wanted_eq, hg]; exact hw
        cases w with
        | true => exact main hw'
        | false =>
          simp only [gdr, drawOps, hw']
          cases putT nt t o.dst aUndef with
          | none => exact .fail
          | some t' =>
            have := drawR_le all b rest (i + 1) (nextR P o i D t h false aUndef) t' h k
            rw [nextR_false] at this
            exact this

/-! ### a region that only reads -/

def isRd (o : Oper) : Bool := match opKind P o with
  | .pure => true
  | .read => true
  | _ => false

def seqD (all : Array Oper) : List Oper → T → Heap → (T → Heap → Res β) → Res β
  | [], t, h, k => k t h
  | o :: rest, t, h, k => match o.guard with
    | none => obv (aOp P (aEval t) h o) fun v => match putT nt t o.dst v with
      | some t' => seqD all rest t' h k
      | none => .fail
    | some (j, want) => gd (wantB (guardV all t j) want) (fun c => obv (aOp P (aEval t) h o) fun v => c v h) h fun v h' => match putT nt t o.dst v with
      | some t' => seqD all rest t' h' k
      | none => .fail

theorem seqD_le (all : Array Oper) (b : Array Nat) : ∀ (l : List Oper) (i : Nat) (D : Dr) (t : T) (h : Heap) (k : T → Heap → Res β), (l.all (isRd P)) = true → D.al = [] → D.ef = [] →
    Le (seqD P nt all l t h k) ((drawOps P call nt all b l i D t h).bind k)
  | [], i, D, t, h, k, _, _, _ => .refl _
  | o :: rest, i, D, t, h, k, hl, ha, he => by
    simp only [List.all_cons, Bool.and_eq_true] at hl
    have main : aWanted all t o = some true → Le (obv (aOp P (aEval t) h o) fun v => match putT nt t o.dst v with
        | some t' => seqD P nt all rest t' h k
        | none => .fail) ((drawOps P call nt all b (o :: rest) i D t h).bind k) := by
      intro hw
      have hk := hl.1
      unfold isRd at hk
      simp only [drawOps, hw, obv]
      cases hop : opKind P o with
      | pure =>
        simp only
        cases arVal (aOp P (aEval t) h o) with
        | none => exact .fail
        | some v =>
          simp only
          cases putT nt t o.dst v with
          | none => exact .fail
          | some t' => exact seqD_le all b rest (i + 1) D t' h k hl.2 ha he
      | read =>
        simp only [ha, he, maskH]
        cases arVal (aOp P (aEval t) h o) with
        | none => exact .fail
        | some v =>
          simp only
          cases putT nt t o.dst v with
          | none => exact .fail
          | some t' =>
            simp only [efOk, if_true]
            exact seqD_le all b rest (i + 1) _ t' h k hl.2 rfl rfl
      | alloc => rw [hop] at hk; cases hk
      | eff => rw [hop] at hk; cases hk
      | bar => rw [hop] at hk; cases hk
    rw [seqD]
    cases hg : o.guard with
    | none =>
      refine main ?_
      rw [wanted_eq, hg]
    | some q =>
      obtain ⟨j, want⟩ := q
      simp only
      cases hw : wantB (guardV all t j) want with
      | none => exact .fail
      | some w =>
        have hw' : aWanted all t o = some w := by rw [wanted_eq, hg]; exact hw
        cases w with
        | true => exact main hw'
        | false =>
          simp only [gd, drawOps, hw']
          cases putT nt t o.dst aUndef with
          | none => exact .fail
          | some t' => exact seqD_le all b rest (i + 1) D t' h k hl.2 ha he

/-! ### code, functions -/

def regionR (ops : Array Oper) (draw : Bool) (t : T) (h : Heap) (k : T → Heap → Res β) : Res β := match draw with
  | true => match ops.toList.all (isRd P) with
    | true => seqD P nt ops ops.toList t h k
    | false => drawR P call nt ops (Region.before ops) ops.toList 0 ⟨[], [], []⟩ t h k
  | false => seqR P call nt ops ops.toList t h k

theorem regionR_le (ops : Array Oper) (draw : Bool) (t : T) (h : Heap) (k : T → Heap → Res β) : Le (regionR P call nt ops draw t h k) (regionK P call nt ops draw t h k) := by
  unfold regionR regionK
  cases draw with
  | true =>
    simp only
    cases hl : ops.toList.all (isRd P) with
    | true => exact seqD_le P call nt ops _ _ 0 _ t h k hl rfl rfl
    | false => exact drawR_le P call nt ops _ _ 0 ⟨[], [], []⟩ t h k
  | false => exact .of_eq (seqR_eq ..)

/-- No more than one way out of it. -/
def plain : Code → Bool
  | .skip => true
  | .label _ => true
  | .region .. => true
  | .exit _ => true
  | .ret => true
  | _ => false

def execR : Code → (β : Type) → T → Heap → Kn β → Res β
  | .skip, _, t, h, k => k .normal t h
  | .label _, _, t, h, k => k .normal t h
  | .region _ ops draw, _, t, h, k => regionR P call nt ops draw t h fun t h => k .normal t h
  | .seq a b, β, t, h, k => match plain a with
    | true => execR a β t h (sqK (fun t h => execR b β t h k) k)
    | false => lt (sqK (fun t h => execR b β t h k) k) fun k => execR a β t h k
  | .cond c a b, β, t, h, k => cb (aEval t c) (execR a β t h k) (execR b β t h k)
  | .block id b, β, t, h, k => lt (blkK id k) fun k => execR b β t h k
  | .loop b, _, t, h, k => (loopN (fun t h => lt okK fun k => execR b (Ex × T) t h k) fuel t h).bind (lpK k)
  | .scope b, β, t, h, k => execR b β t h k
  | .exit id, _, t, h, k => k (.exit id) t h
  | .ret, _, t, h, k => k .ret t h
  | _, _, _, _, _ => .fail

theorem execR_le : ∀ (c : Code) (β : Type) (t : T) (h : Heap) (k : Kn β), Le (execR P call fuel nt c β t h k) (execK P call fuel nt c t h k)
  | .skip, _, t, h, k => .refl _
  | .label _, _, t, h, k => .refl _
  | .region _ ops draw, _, t, h, k => regionR_le P call nt ops draw t h _
  | .seq a b, β, t, h, k => by
    have hab : Le (execR P call fuel nt a β t h (sqK (fun t h => execR P call fuel nt b β t h k) k)) (execK P call fuel nt (.seq a b) t h k) := by
      refine (execR_le a β t h _).trans ?_
      simp only [execK]
      rw [← execK_eq, ← execK_eq]
      refine Le.bind (.refl _) fun r h' => ?_
      obtain ⟨ex, t'⟩ := r
      cases ex with
      | normal => exact execR_le b β t' h' k
      | exit i => exact .refl _
      | ret => exact .refl _
    simp only [execR, lt]
    cases plain a <;> exact hab
  | .cond c a b, β, t, h, k => Le.cb _ (execR_le a β t h k) (execR_le b β t h k)
  | .block id b, β, t, h, k => execR_le b β t h _
  | .loop b, β, t, h, k => by
    simp only [execR, execK]
    refine Le.bind (Le.loopN (fun t h => ?_) _ _ _) fun r h' => .refl _
    rw [exec_K]
    exact execR_le b (Ex × T) t h _
  | .scope b, β, t, h, k => execR_le b β t h k
  | .exit id, _, t, h, k => .refl _
  | .ret, _, t, h, k => .refl _
  | .rangeFunc .., _, t, h, k => .refl _
  | .goto _, _, t, h, k => .refl _
  | .refuse _, _, t, h, k => .refl _

end

/-- A function's body in that form. -/
def bodyR (P : Program) (call : FuncId → List AVal → Heap → Res AVal) (fuel : Nat) (fn : Func) (args : List AVal) (h : Heap) : Res AVal := match fn.body with
  | none => .fail
  | some c => lt (retK P fn.results.toList) fun k => execR P call fuel (args.length + (fn.ntmps - args.length)) c AVal (enterT args) h k

theorem bodyR_le (P : Program) (call : FuncId → List AVal → Heap → Res AVal) (fuel : Nat) (fn : Func) (args : List AVal) (h : Heap) : Le (bodyR P call fuel fn args h) (body P call fuel fn args h) := by
  rw [bodyK_eq]
  unfold bodyR bodyK
  cases fn.body with
  | none => exact .refl _
  | some c =>
    simp only [lt]
    refine (execR_le P call fuel _ c AVal _ h _).trans (.of_eq ?_)
    first
      | rfl
      | (congr 1; funext ex t h'; cases ex <;> rfl)

theorem acallX_le {P : Program} {X : XTab} {f : FuncId} {fn : Func} (hf : P.funcs[f]? = some fn) {args : List AVal} (hx : X f args = none) (n : Nat) (h : Heap) (hd : defers fn = false := by kernel_rfl) :
    Le (bodyR P (acallX P X n) n fn args h) (acallX P X (n + 1) f args h) := by
  simp only [acallX, hx, hf, bodyA, hd, Bool.false_eq_true, if_false]
  exact bodyR_le P _ n fn args h

/-! ### What is told from some fuel on -/

def Tells {α : Type} (r : Nat → Res α) (Q : α → Heap → Prop) : Prop := ∃ a h, Q a h ∧ ∃ N, ∀ m, N ≤ m → r m = .ok a h

section
variable {α β : Type} {Q : β → Heap → Prop}

theorem Tells.ok {Q : α → Heap → Prop} {a : α} {h : Heap} (k : Q a h) : Tells (fun _ => .ok a h) Q := ⟨a, h, k, 0, fun _ _ => rfl⟩
theorem Tells.mono {Q R : α → Heap → Prop} {r : Nat → Res α} (k : Tells r Q) (f : ∀ a h, Q a h → R a h) : Tells r R := by
  obtain ⟨a, h, q, N, e⟩ := k; exact ⟨a, h, f a h q, N, e⟩
theorem Tells.bind {R : α → Heap → Prop} {r : Nat → Res α} {g : Nat → α → Heap → Res β} (k : Tells r R) (f : ∀ a h, R a h → Tells (fun m => g m a h) Q) : Tells (fun m => (r m).bind (g m)) Q := by
  obtain ⟨a, h, q, N, e⟩ := k
  obtain ⟨b, h', q', N', e'⟩ := f a h q
  exact ⟨b, h', q', max N N', fun m hm => by
    have hm : N ≤ m ∧ N' ≤ m := Nat.max_le.1 hm
    simp only [e m hm.1, Res.bind]; exact e' m hm.2⟩
theorem Tells.cbE {R : AVal → Heap → Prop} {r : Nat → Res AVal} {g : Nat → AVal → Heap → Res β} (k : Tells r R) (f : ∀ a h, R a h → Tells (fun m => g m a h) Q) : Tells (fun m => cbE (r m) (g m)) Q := by
  obtain ⟨a, h, q, N, e⟩ := k
  obtain ⟨b, h', q', N', e'⟩ := f a h q
  exact ⟨b, h', q', max N N', fun m hm => by
    have hm : N ≤ m ∧ N' ≤ m := Nat.max_le.1 hm
    simp only [e m hm.1, Go.Ab.cbE]; exact e' m hm.2⟩
theorem Tells.le {r s : Nat → Res β} (k : Tells r Q) (f : ∀ m, Le (r m) (s m)) : Tells s Q := by
  obtain ⟨a, h, q, N, e⟩ := k
  exact ⟨a, h, q, N, fun m hm => (f m).ok (e m hm)⟩
theorem Tells.later {r : Nat → Res β} (k : Tells (fun m => r (m + 1)) Q) : Tells r Q := by
  obtain ⟨a, h, q, N, e⟩ := k
  refine ⟨a, h, q, N + 1, fun m hm => ?_⟩
  obtain ⟨p, rfl⟩ : ∃ p, m = p + 1 := ⟨m - 1, by omega⟩
  exact e p (by omega)

/-- A loop that ends: 'I n t h' tells of the state with a bound of the rounds to come. -/
theorem Tells.loop {body : Nat → T → Heap → Res (Ex × T)} {Q : Ex × T → Heap → Prop} (I : Nat → T → Heap → Prop)
    (step : ∀ n t h, I n t h → Tells (fun m => body m t h) fun r h' => (r.1 = .normal ∧ ∃ n', n' < n ∧ I n' r.2 h') ∨ (r.1 ≠ .normal ∧ Q r h')) :
    ∀ n t h, I n t h → Tells (fun m => loopN (body m) m t h) Q := by
  have gen : ∀ n, ∀ c t h, I n t h → Tells (fun m => loopN (body m) (m - c) t h) Q := by
    intro n
    induction n using Nat.strongRecOn with
    | _ n ih =>
      intro c t h hi
      obtain ⟨r, h', q, N, e⟩ := step n t h hi
      rcases q with ⟨hr, n', hn, hi'⟩ | ⟨hr, hq⟩
      · obtain ⟨a, h2, q2, N2, e2⟩ := ih n' hn (c + 1) r.2 h' hi'
        refine ⟨a, h2, q2, max (max N N2) (c + 1), fun m hm => ?_⟩
        have hm : (N ≤ m ∧ N2 ≤ m) ∧ c + 1 ≤ m := ⟨Nat.max_le.1 (Nat.max_le.1 hm).1, (Nat.max_le.1 hm).2⟩
        obtain ⟨p, hp⟩ : ∃ p, m - c = p + 1 := ⟨m - c - 1, by omega⟩
        show loopN (body m) (m - c) t h = _
        rw [hp]
        simp only [loopN, e m hm.1.1, Res.bind]
        obtain ⟨ex, t'⟩ := r
        simp only at hr; subst hr
        have h3 : loopN (body m) (m - (c + 1)) t' h' = .ok a h2 := e2 m hm.1.2
        rw [show m - (c + 1) = p by omega] at h3
        exact h3
      · refine ⟨r, h', hq, max N (c + 1), fun m hm => ?_⟩
        have hm : N ≤ m ∧ c + 1 ≤ m := Nat.max_le.1 hm
        obtain ⟨p, hp⟩ : ∃ p, m - c = p + 1 := ⟨m - c - 1, by omega⟩
        show loopN (body m) (m - c) t h = _
        rw [hp]
        simp only [loopN, e m hm.1, Res.bind]
        obtain ⟨ex, t'⟩ := r
        cases ex with
        | normal => exact absurd rfl hr
        | exit i => rfl
        | ret => rfl
  intro n t h hi
  exact gen n 0 t h hi

end
end Go.Ab
