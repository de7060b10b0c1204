/-
  The abstract machine's operations with what hangs on types already looked up.
-/
import Derived.Test.YtochkdifpgelmaaABS
set_option linter.unusedVariables false
set_option linter.unusedSimpArgs false
namespace Go.Ab

def ld1 (h : Heap) (a : AVal) : Option AVal := match a with
  | .ptr b off => h.cell b off
  | _ => none
def ldn (n : Nat) (h : Heap) (a : AVal) : Option AVal := match a with
  | .ptr b off => match h.cells b off n with
    | some cs => some (.agg cs)
    | none => none
  | _ => none
def stR (n : Nat) (h : Heap) (a v : AVal) : AR := match a with
  | .ptr b off => if v.cells.length = n ∧ v.cells.all AVal.one = true then match h.put b off v.cells with
    | some h' => .val aUndef h'
    | none => .fail
    else .fail
  | _ => .fail
def nckR (v : AVal) (h : Heap) : AR := match v with
  | .ptr b off => .val (.ptr b off) h
  | .fn f a c => .val (.fn f a c) h
  | .iface t v => .val (.iface t v) h
  | _ => .fail
def newR (z : List AVal) (h : Heap) : AR := .val (.ptr h.next 0) (h.new true z)
def boxR (v : AVal) (h : Heap) : AR := if v.known = true then .val (.ptr h.next 0) (h.new true v.cells) else .fail
def pkR (c a b : AVal) (h : Heap) : AR := match c with
  | .bool t => .val (if t then a else b) h
  | _ => .fail
def fillR (cs : List AVal) : List (Nat × Nat × AVal) → Option (List AVal)
  | [] => some cs
  | (off, size, v) :: rest => if v.known = true ∧ v.cells.length = size ∧ off + v.cells.length ≤ cs.length then fillR (splice cs off v.cells) rest else none
def bldR (cs : List AVal) (parts : List (Nat × Nat × AVal)) : Option AVal := match fillR cs parts with
  | some cs => some (.agg cs)
  | none => none
def bslR (n : Nat) (cs : List AVal) (len : Nat) (h : Heap) (parts : List (Nat × Nat × AVal)) : AR := match fillR cs parts with
  | some cs => .val (.sl h.next 0 len len n true) (h.new false cs)
  | none => .fail
def fadR (o : Nat) (x : AVal) : Option AVal := match x with
  | .ptr b off => some (.ptr b (off + o))
  | _ => none
def fld1 (o : Nat) (x : AVal) : Option AVal := match x with
  | .agg cs => cs[o]?
  | _ => none
def fldn (o n : Nat) (x : AVal) : Option AVal := match x with
  | .agg cs => if o + n ≤ cs.length then some (.agg ((cs.drop o).take n)) else none
  | _ => none
def ixsR (z : Nat) (x i : AVal) : Option AVal := match x, i with
  | .sl b off len _ _ _, .int _ n => if 0 ≤ n ∧ n < (len : Int) then some (.ptr b (off + n.toNat * z)) else none
  | _, _ => none
def ixpR (len z : Nat) (x i : AVal) : Option AVal := match x, i with
  | .ptr b off, .int _ n => if 0 ≤ n ∧ n < (len : Int) then some (.ptr b (off + n.toNat * z)) else none
  | _, _ => none
def ixa1 (len z : Nat) (x i : AVal) : Option AVal := match x, i with
  | .agg cs, .int _ n => if 0 ≤ n ∧ n < (len : Int) then cs[n.toNat * z]? else none
  | _, _ => none
def ixan (len z n : Nat) (x i : AVal) : Option AVal := match x, i with
  | .agg cs, .int _ m => if 0 ≤ m ∧ m < (len : Int) then (if m.toNat * z + n ≤ cs.length then some (.agg ((cs.drop (m.toNat * z)).take n)) else none) else none
  | _, _ => none
def ixtR (x i : AVal) : Option AVal := match x, i with
  | .str s, .int _ n => if 0 ≤ n then match s.data.toList[n.toNat]? with
    | some b => some (.int .u8 b.toNat)
    | none => none
    else none
  | _, _ => none
def lenS (x : AVal) : Option AVal := match x with
  | .str s => some (.int .i64 s.size)
  | _ => none
def lenL (x : AVal) : Option AVal := match x with
  | .sl _ _ n _ _ _ => some (.int .i64 n)
  | .nils => some (.int .i64 0)
  | _ => none
def appR (n by_ : Nat) (h : Heap) (s x : AVal) : AR := match aSource h n false x with
  | some (m, new) => match s with
    | .nils => if m = 0 then .val .nils h else
      if m ≤ 2 ^ 40 ∧ m * by_ ≤ 2 ^ 46 ∧ 0 < n then .val (.sl h.next 0 m m n false) (h.newG new) else .fail
    | .sl b off len cap sz ex => match h.cells b off (len * n) with
      | some old =>
        if len + m ≤ cap then
          if m = 0 then .val s h
          else if ex = true ∨ sz = n then if new.all AVal.one = true then match h.put b (off + len * n) new with
            | some h' => .val (.sl b off (len + m) cap sz ex) h'
            | none => .fail
            else .fail
          else .fail
        else if len + m ≤ 2 ^ 40 ∧ (len + m) * by_ ≤ 2 ^ 46 ∧ 0 < n then
          if ex = true then .val (.sl h.next 0 (len + m) (len + m) n false) (h.newG (old ++ new))
          else match h.cls b with
            | some r => if sz = n ∧ h.n0 ≤ b ∧ new.all AVal.one = true ∧ h.spent b = false ∧ h.only r = false ∧ (h.cells b off (len * n + 1)).isNone = true then .val (.sl h.next 0 (len + m) (len + m) n false) (h.app r b (old ++ new)) else .fail
            | none => .fail
        else .fail
      | none => .fail
    | _ => .fail
  | none => .fail
def cpyR (n : Nat) (h : Heap) (d x : AVal) : AR := match d, x with
  | .sl b off dl _ _ _, .sl b2 off2 xl _ _ _ => match h.cells b2 off2 (Nat.min xl dl * n) with
    | some cs => if cs.all AVal.one = true then match h.put b off cs with
      | some h' => .val (.int .i64 (Nat.min xl dl)) h'
      | none => .fail
      else .fail
    | none => .fail
  | .sl .., .nils => .val (.int .i64 0) h
  | .nils, .sl .. => .val (.int .i64 0) h
  | .nils, .nils => .val (.int .i64 0) h
  | _, _ => .fail
def makR (n by_ : Nat) (z : List AVal) (h : Heap) (len cap : AVal) : AR := match len, cap with
  | .int _ l, .int _ c => if 0 ≤ l ∧ l ≤ c ∧ c ≤ 2 ^ 40 ∧ c * by_ ≤ 2 ^ 46 ∧ z.length = n then .val (.sl h.next 0 l.toNat c.toNat n true) (h.new true (zeros z c.toNat)) else .fail
  | _, _ => .fail
def clvR (P : Program) (v : AVal) (args : List AVal) (h : Heap) : AR := match v with
  | .fn g first captured => if enters P g then .call g (first ++ args ++ captured) h else .of (aNat P g (first ++ args ++ captured)) h
  | _ => .fail
def pncR (v : AVal) (h : Heap) : AR := match v with
  | .iface t v => .pan (.iface t v) h
  | _ => .fail
def extR (x : AVal) (i : Nat) (h : Heap) : AR := match x with
  | .tup vs => .of vs[i]? h
  | _ => .fail

def slcR (n : Nat) (x : AVal) (lo hi mx : Option AVal) : Option AVal := match x with
  | .sl b off len cap sz ex => match mx with
    | none => match aBoundO hi cap len with
      | some h => match aBoundO lo h 0 with
        | some l => if ex = true ∨ sz = n then some (.sl b (off + l * n) (h - l) (cap - l) sz ex) else none
        | none => none
      | none => none
    | some m => match aBound m cap, hi with
      | some m, some h => match aBound h m with
        | some h => match aBoundO lo h 0 with
          | some l => some (.sl b (off + l * n) (h - l) (m - l) sz true)
          | none => none
        | none => none
      | _, _ => none
  | .nils => match mx with
    | some _ => none
    | none => match aBoundO hi 0 0 with
      | some h => match aBoundO lo h 0 with
        | some _ => some .nils
        | none => none
      | none => none
  | _ => none
def sltR (x : AVal) (lo hi : Option AVal) : Option AVal := match x with
  | .str s => match aBoundO hi s.size s.size with
    | some h => match aBoundO lo h 0 with
      | some l => some (.str (s.extract l h))
      | none => none
    | none => none
  | _ => none

/-- A text of these bytes. -/
def bs (l : List Nat) : ByteArray := ⟨(l.map UInt8.ofNat).toArray⟩

end Go.Ab
