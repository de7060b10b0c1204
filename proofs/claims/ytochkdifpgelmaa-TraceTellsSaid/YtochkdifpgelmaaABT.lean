/-
  Laws by which 'simp' reckons in the S-forms.
-/
import Derived.Test.YtochkdifpgelmaaABR
set_option linter.unusedVariables false
set_option linter.unusedSimpArgs false
namespace Go.Ab

section
variable {α β : Type}

/-! ### one step; what follows is left as it is -/

@[congr] theorem arb_congr {X Y : AR} (e : X = Y) (call : FuncId → List AVal → Heap → Res AVal) (k : AVal → Heap → Res β) : arb X call k = arb Y call k := by rw [e]
@[congr] theorem obv_congr {X Y : AR} (e : X = Y) (k : AVal → Res β) : obv X k = obv Y k := by rw [e]
@[congr] theorem arbV_congr {X Y : AR} (e : X = Y) (k : AVal → Heap → Res β) : arbV X k = arbV Y k := by rw [e]
@[congr] theorem arbE_congr {X Y : AR} (e : X = Y) (call : FuncId → List AVal → Heap → Res AVal) (k : AVal → Heap → Res β) : arbE X call k = arbE Y call k := by rw [e]
@[congr] theorem gd_congr {w u : Option Bool} (e : w = u) (r : (AVal → Heap → Res β) → Res β) (h : Heap) (k : AVal → Heap → Res β) : gd w r h k = gd u r h k := by rw [e]
@[congr] theorem gdr_congr {w u : Option Bool} (e : w = u) (r : (Bool → AVal → Heap → Res β) → Res β) (h : Heap) (k : Bool → AVal → Heap → Res β) : gdr w r h k = gdr u r h k := by rw [e]
@[congr] theorem ifb_congr {w u : Bool} (e : w = u) (r : Res β) : ifb w r = ifb u r := by rw [e]
@[congr] theorem cb_congr {c d : AVal} (e : c = d) (x y : Res β) : cb c x y = cb d x y := by rw [e]
@[congr] theorem bind_congr' {r s : Res α} (e : r = s) (k : α → Heap → Res β) : r.bind k = s.bind k := by rw [e]
@[congr] theorem cbE_congr {r s : Res AVal} (e : r = s) (k : AVal → Heap → Res β) : cbE r k = cbE s k := by rw [e]

@[simp] theorem lt_eq (x : α) (f : α → Res β) : lt x f = f x := (rfl)
@[simp] theorem arb_val (v : AVal) (h : Heap) (call : FuncId → List AVal → Heap → Res AVal) (k : AVal → Heap → Res β) : arb (.val v h) call k = k v h := (rfl)
@[simp] theorem arb_call (f : FuncId) (a : List AVal) (h : Heap) (call : FuncId → List AVal → Heap → Res AVal) (k : AVal → Heap → Res β) : arb (.call f a h) call k = (call f a h).bind k := (rfl)
@[simp] theorem of_some (v : AVal) (h : Heap) : AR.of (some v) h = .val v h := (rfl)
@[simp] theorem obv_val (v : AVal) (h : Heap) (k : AVal → Res β) : obv (.val v h) k = k v := (rfl)
@[simp] theorem arbV_val (v : AVal) (h : Heap) (k : AVal → Heap → Res β) : arbV (.val v h) k = k v h := (rfl)
@[simp] theorem arbE_val (v : AVal) (h : Heap) (call : FuncId → List AVal → Heap → Res AVal) (k : AVal → Heap → Res β) : arbE (.val v h) call k = k v h := (rfl)
@[simp] theorem arbE_call (f : FuncId) (a : List AVal) (h : Heap) (call : FuncId → List AVal → Heap → Res AVal) (k : AVal → Heap → Res β) : arbE (.call f a h) call k = cbE (call f a h) k := (rfl)
@[simp] theorem arVal_val (v : AVal) (h : Heap) : arVal (.val v h) = some v := (rfl)
@[simp] theorem wantB_bool (b w : Bool) : wantB (.bool b) w = some (b == w) := (rfl)
@[simp] theorem wantB_undef (w : Bool) : wantB aUndef w = some false := (rfl)
@[simp] theorem gd_true (r : (AVal → Heap → Res β) → Res β) (h : Heap) (k : AVal → Heap → Res β) : gd (some true) r h k = r k := (rfl)
@[simp] theorem gd_false (r : (AVal → Heap → Res β) → Res β) (h : Heap) (k : AVal → Heap → Res β) : gd (some false) r h k = k aUndef h := (rfl)
@[simp] theorem gdr_true (r : (Bool → AVal → Heap → Res β) → Res β) (h : Heap) (k : Bool → AVal → Heap → Res β) : gdr (some true) r h k = r k := (rfl)
@[simp] theorem gdr_false (r : (Bool → AVal → Heap → Res β) → Res β) (h : Heap) (k : Bool → AVal → Heap → Res β) : gdr (some false) r h k = k false aUndef h := (rfl)
@[simp] theorem ifb_true (r : Res β) : ifb true r = r := (rfl)
@[simp] theorem cbT (x y : Res β) : cb (.bool true) x y = x := (rfl)
@[simp] theorem cbF (x y : Res β) : cb (.bool false) x y = y := (rfl)

@[simp] theorem sqK_normal (f : T → Heap → Res β) (k : Kn β) (t : T) (h : Heap) : sqK f k .normal t h = f t h := (rfl)
@[simp] theorem sqK_exit (f : T → Heap → Res β) (k : Kn β) (i : Nat) (t : T) (h : Heap) : sqK f k (.exit i) t h = k (.exit i) t h := (rfl)
@[simp] theorem sqK_ret (f : T → Heap → Res β) (k : Kn β) (t : T) (h : Heap) : sqK f k .ret t h = k .ret t h := (rfl)
@[simp] theorem blkK_normal (id : Nat) (k : Kn β) (t : T) (h : Heap) : blkK id k .normal t h = k .normal t h := (rfl)
@[simp] theorem blkK_exit (id : Nat) (k : Kn β) (i : Nat) (t : T) (h : Heap) : blkK id k (.exit i) t h = if i = id then k .normal t h else k (.exit i) t h := (rfl)
@[simp] theorem blkK_ret (id : Nat) (k : Kn β) (t : T) (h : Heap) : blkK id k .ret t h = k .ret t h := (rfl)
@[simp] theorem retK_normal (P : Program) (rs : List ResultVar) (t : T) (h : Heap) : retK P rs .normal t h = resK P t h rs fun l => .ok (oneOrTup l) h := (rfl)
@[simp] theorem retK_ret (P : Program) (rs : List ResultVar) (t : T) (h : Heap) : retK P rs .ret t h = resK P t h rs fun l => .ok (oneOrTup l) h := (rfl)
@[simp] theorem resK_nil (P : Program) (t : T) (h : Heap) (k : List AVal → Res β) : resK P t h [] k = k [] := (rfl)
@[simp] theorem resK_tmp (P : Program) (t : T) (h : Heap) (i : Tmp) (rs : List ResultVar) (k : List AVal → Res β) : resK P t h (.tmp i :: rs) k = resK P t h rs fun l => k (t i :: l) := (rfl)
@[simp] theorem resK_cell (P : Program) (t : T) (h : Heap) (a ty : Nat) (rs : List ResultVar) (k : List AVal → Res β) : resK P t h (.cell a ty :: rs) k = ob (aLoad P h ty (t a)) fun v => resK P t h rs fun l => k (v :: l) := (rfl)
@[simp] theorem ob_someS (v : AVal) (k : AVal → Res β) : ob (some v) k = k v := (rfl)
@[simp] theorem one_one (v : AVal) : oneOrTup [v] = v := (rfl)
@[simp] theorem one_two (v u : AVal) (l : List AVal) : oneOrTup (v :: u :: l) = .tup (v :: u :: l) := (rfl)
@[simp] theorem one_nil : oneOrTup [] = .tup [] := (rfl)
@[simp] theorem okK_eq (ex : Ex) (t : T) (h : Heap) : okK ex t h = .ok (ex, t) h := (rfl)
@[simp] theorem lpK_eq (k : Kn β) (ex : Ex) (t : T) (h : Heap) : lpK k (ex, t) h = k ex t h := (rfl)
@[simp] theorem upd_same (t : T) (d : Nat) (v : AVal) : upd t d v d = v := by simp [upd]
@[simp] theorem upd_ne (t : T) (d i : Nat) (v : AVal) (h : i ≠ d) : upd t d v i = t i := by simp [upd, h]
@[simp] theorem enterT_0 (a : AVal) (l : List AVal) : enterT (a :: l) 0 = a := (rfl)
@[simp] theorem enterT_1 (a b : AVal) (l : List AVal) : enterT (a :: b :: l) 1 = b := (rfl)
@[simp] theorem enterT_2 (a b c : AVal) (l : List AVal) : enterT (a :: b :: c :: l) 2 = c := (rfl)
@[simp] theorem enterT_3 (a b c d : AVal) (l : List AVal) : enterT (a :: b :: c :: d :: l) 3 = d := (rfl)
@[simp] theorem enterT_4 (a b c d e : AVal) (l : List AVal) : enterT (a :: b :: c :: d :: e :: l) 4 = e := (rfl)
@[simp] theorem enterT_5 (a b c d e f : AVal) (l : List AVal) : enterT (a :: b :: c :: d :: e :: f :: l) 5 = f := (rfl)

/-! ### operations -/

@[simp] theorem ld1_ptr (h : Heap) (b o : Nat) : ld1 h (.ptr b o) = h.cell b o := (rfl)
@[simp] theorem nck_ptr (h : Heap) (b o : Nat) : nckR (.ptr b o) h = .val (.ptr b o) h := (rfl)
@[simp] theorem nck_fn (h : Heap) (f : FuncId) (a c : List AVal) : nckR (.fn f a c) h = .val (.fn f a c) h := (rfl)
@[simp] theorem pk_bool (c : Bool) (a b : AVal) (h : Heap) : pkR (.bool c) a b h = .val (if c then a else b) h := (rfl)
@[simp] theorem fad_ptr (o b off : Nat) : fadR o (.ptr b off) = some (.ptr b (off + o)) := (rfl)
@[simp] theorem fld1_agg (o : Nat) (cs : List AVal) : fld1 o (.agg cs) = cs[o]? := (rfl)
@[simp] theorem lenL_sl (b off n c z : Nat) (x : Bool) : lenL (.sl b off n c z x) = some (.int .i64 n) := (rfl)
@[simp] theorem lenL_nils : lenL .nils = some (.int .i64 0) := (rfl)
@[simp] theorem lenS_str (s : ByteArray) : lenS (.str s) = some (.int .i64 s.size) := (rfl)
@[simp] theorem ext_tup (l : List AVal) (i : Nat) (h : Heap) : extR (.tup l) i h = .of l[i]? h := (rfl)

@[simp] theorem cells_agg (l : List AVal) : (AVal.agg l).cells = l := (rfl)
@[simp] theorem cells_int (k : IntKind) (n : Int) : (AVal.int k n).cells = [.int k n] := (rfl)
@[simp] theorem cells_bool (n : Bool) : (AVal.bool n).cells = [.bool n] := (rfl)
@[simp] theorem cells_str (n : ByteArray) : (AVal.str n).cells = [.str n] := (rfl)
@[simp] theorem cells_flt (k : FloatKind) (n : Nat) : (AVal.flt k n).cells = [.flt k n] := (rfl)
@[simp] theorem cells_nilp : (AVal.nilp).cells = [.nilp] := (rfl)
@[simp] theorem cells_nils : (AVal.nils).cells = [.nils] := (rfl)
@[simp] theorem cells_ptr (b o : Nat) : (AVal.ptr b o).cells = [.ptr b o] := (rfl)
@[simp] theorem cells_sl (b off n c z : Nat) (x : Bool) : (AVal.sl b off n c z x).cells = [.sl b off n c z x] := (rfl)
@[simp] theorem cells_fn (f : FuncId) (a c : List AVal) : (AVal.fn f a c).cells = [.fn f a c] := (rfl)
@[simp] theorem known_agg (l : List AVal) : (AVal.agg l).known = true := (rfl)
@[simp] theorem known_int (k : IntKind) (n : Int) : (AVal.int k n).known = true := (rfl)
@[simp] theorem known_bool (n : Bool) : (AVal.bool n).known = true := (rfl)
@[simp] theorem known_str (n : ByteArray) : (AVal.str n).known = true := (rfl)
@[simp] theorem known_flt (k : FloatKind) (n : Nat) : (AVal.flt k n).known = true := (rfl)
@[simp] theorem known_nilp : (AVal.nilp).known = true := (rfl)
@[simp] theorem known_nils : (AVal.nils).known = true := (rfl)
@[simp] theorem known_ptr (b o : Nat) : (AVal.ptr b o).known = true := (rfl)
@[simp] theorem known_sl (b off n c z : Nat) (x : Bool) : (AVal.sl b off n c z x).known = true := (rfl)
@[simp] theorem known_fn (f : FuncId) (a c : List AVal) : (AVal.fn f a c).known = true := (rfl)
@[simp] theorem one_int (k : IntKind) (n : Int) : (AVal.int k n).one = true := (rfl)
@[simp] theorem one_bool (n : Bool) : (AVal.bool n).one = true := (rfl)
@[simp] theorem one_str (n : ByteArray) : (AVal.str n).one = true := (rfl)
@[simp] theorem one_flt (k : FloatKind) (n : Nat) : (AVal.flt k n).one = true := (rfl)
@[simp] theorem one_nilp : (AVal.nilp).one = true := (rfl)
@[simp] theorem one_nils : (AVal.nils).one = true := (rfl)
@[simp] theorem one_ptr (b o : Nat) : (AVal.ptr b o).one = true := (rfl)
@[simp] theorem one_sl (b off n c z : Nat) (x : Bool) : (AVal.sl b off n c z x).one = true := (rfl)
@[simp] theorem one_fn (f : FuncId) (a c : List AVal) : (AVal.fn f a c).one = true := (rfl)
theorem box_val (v : AVal) (h : Heap) (e : v.known = true) : boxR v h = .val (.ptr h.next 0) (h.new true v.cells) := by simp [boxR, e]

section
variable (P : Program) (t : TypeId) (x y : Operand) (k : IntKind) (a b : Int) (c d : Bool)
@[simp] theorem aBin_add : aBin P .add t x y (.int k a) (.int k b) = some (.int k (k.wrap (a + b))) := by cases k <;> rfl
@[simp] theorem aBin_sub : aBin P .sub t x y (.int k a) (.int k b) = some (.int k (k.wrap (a - b))) := by cases k <;> rfl
@[simp] theorem aBin_mul : aBin P .mul t x y (.int k a) (.int k b) = some (.int k (k.wrap (a * b))) := by cases k <;> rfl
@[simp] theorem aBin_eql : aBin P .eql t x y (.int k a) (.int k b) = some (.bool (a == b)) := by cases k <;> rfl
@[simp] theorem aBin_neq : aBin P .neq t x y (.int k a) (.int k b) = some (.bool (a != b)) := by cases k <;> rfl
@[simp] theorem aBin_lss : aBin P .lss t x y (.int k a) (.int k b) = some (.bool (a < b)) := by cases k <;> rfl
@[simp] theorem aBin_leq : aBin P .leq t x y (.int k a) (.int k b) = some (.bool (a ≤ b)) := by cases k <;> rfl
@[simp] theorem aBin_gtr : aBin P .gtr t x y (.int k a) (.int k b) = some (.bool (a > b)) := by cases k <;> rfl
@[simp] theorem aBin_geq : aBin P .geq t x y (.int k a) (.int k b) = some (.bool (a ≥ b)) := by cases k <;> rfl
theorem aPure_bind {α β : Type} (s : Sem α) (f : α → Sem β) : aPure P (s >>= f) = (aPure P s).bind fun a => aPure P (f a) := by
  show aPure P (s.bind f) = _
  induction s with
  | pure a => rfl
  | program k ih => exact ih P
  | mark m k ih => exact ih
  | _ => rfl
theorem aPure_under {d : TypeDesc} (ht : P.underlying t = some d) : aPure P (underlying t) = some d := by
  unfold underlying
  rw [aPure_bind]
  show Option.bind (some P) _ = _
  simp only [Option.bind, ht]
  rfl
theorem equal_bool (ht : P.underlying t = some .bool) : aPure P (Op.equal t (.bool c) (.bool d)) = some (c == d) := by
  show aPure P (Op.equalIn (9999 + 1) t (.bool c) (.bool d)) = _
  unfold Op.equalIn
  rw [aPure_bind, aPure_under P t ht]
  rfl
@[simp] theorem aBin_beql (ht : P.underlying t = some .bool) : aBin P .eql t x y (.bool c) (.bool d) = some (.bool (c == d)) := by
  have : aPure P (do eqGuard .eql t x y (.bool c) (.bool d); binOp .eql t (.bool c) (.bool d)) = some (.bool (c == d)) := by
    show aPure P (Op.equal t (.bool c) (.bool d) >>= fun r => (pure (Value.bool r) : Sem Value)) = _
    rw [aPure_bind, equal_bool P t c d ht]
    rfl
  simp only [aBin, AVal.toV, this, ofV]
@[simp] theorem aBin_bneq (ht : P.underlying t = some .bool) : aBin P .neq t x y (.bool c) (.bool d) = some (.bool (!(c == d))) := by
  have : aPure P (do eqGuard .neq t x y (.bool c) (.bool d); binOp .neq t (.bool c) (.bool d)) = some (.bool (!(c == d))) := by
    show aPure P (Op.equal t (.bool c) (.bool d) >>= fun r => (pure (Value.bool !r) : Sem Value)) = _
    rw [aPure_bind, equal_bool P t c d ht]
    rfl
  simp only [aBin, AVal.toV, this, ofV]
theorem aBin_quo (hb : b ≠ 0) : aBin P .quo t x y (.int k a) (.int k b) = some (.int k (k.wrap (a.tdiv b))) := by
  have : aPure P (do eqGuard .quo t x y (.int k a) (.int k b); binOp .quo t (.int k a) (.int k b)) = some (.int k (k.wrap (a.tdiv b))) := by
    show aPure P (if k ≠ k then _ else Op.intDiv .quo k a b) = _
    rw [if_neg (by simp)]
    unfold Op.intDiv
    rw [if_neg hb]
    rfl
  simp only [aBin, AVal.toV, this, ofV]
theorem aBin_rem (hb : b ≠ 0) : aBin P .rem t x y (.int k a) (.int k b) = some (.int k (a.tmod b)) := by
  have : aPure P (do eqGuard .rem t x y (.int k a) (.int k b); binOp .rem t (.int k a) (.int k b)) = some (.int k (a.tmod b)) := by
    show aPure P (if k ≠ k then _ else Op.intDiv .rem k a b) = _
    rw [if_neg (by simp)]
    unfold Op.intDiv
    rw [if_neg hb]
    rfl
  simp only [aBin, AVal.toV, this, ofV]
@[simp] theorem min_int (ts : Array TypeId) : aPureB P (Builtin.min_ ts t) [.int k a, .int k b] = some (.int k (if b < a then b else a)) := (rfl)
@[simp] theorem max_int (ts : Array TypeId) : aPureB P (Builtin.max_ ts t) [.int k a, .int k b] = some (.int k (if b > a then b else a)) := (rfl)
@[simp] theorem aUn_not : aUn P .not (.bool c) = some (.bool (!c)) := (rfl)
end

end
end Go.Ab
