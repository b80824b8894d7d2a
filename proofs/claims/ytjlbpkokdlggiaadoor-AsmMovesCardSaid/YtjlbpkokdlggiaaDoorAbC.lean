/- Abstract states for walks, part 3: what the operations do that lay no memory and write none. -/
import Derived.Test.YtjlbpkokdlggiaaDoorAbB
namespace Go.Ab
open Go.RowKit

def V.cells : V → List V
  | .st cs => cs
  | v => [v]
def mkV (ag : Bool) (cs : List V) : V := bif ag then .st cs else cs.getD 0 .poi
def of1 : Value → V
  | .bool b => .bool b
  | .int k n => .int k n
  | .string s => .str s.data.toList
  | .slice none 0 0 => .sl 0 true []
  | _ => .poi
def ofVal : Value → V
  | .agg cs => bif cs.all (·.oneCell') then .st (cs.toList.map of1) else .poi
  | v => of1 v
/-- a package's variable, by its address -/
def glo [Glo] (g : Nat) : V := match lookG Glo.tab g with | some cs => .iptr cs | none => .poi
def ev [Glo] (st : St) : Operand → V
  | .tmp t => lkT st.tmp t
  | .const v => ofVal v
  | .func f => .fn f
  | .global g => glo g

/-- cells and whether it is a struct or an array -/
def tyE (P : Program) (t : TypeId) : Option (Nat × Bool) :=
  match P.info? t, P.underlying t with
  | some i, some (.struct _) => some (i.size, true)
  | some i, some (.array _ _) => some (i.size, true)
  | some i, some _ => some (i.size, false)
  | _, _ => none
/-- a field's offset, cells, and whether it is a struct or an array -/
def fldE (P : Program) (t : TypeId) (f : Nat) : Option (Nat × Nat × Bool) :=
  match P.underlying t with
  | some (.struct fs) => match fs[f]? with
    | some fd => match tyE P fd.type with
      | some (n, ag) => if n = 0 then none else some (fd.offset, n, ag)
      | none => none
    | none => none
  | _ => none
/-- a slice type's element type, its cells, its bytes -/
def slE (P : Program) (t : TypeId) : Option (Nat × Nat × Nat) :=
  match P.underlying t with
  | some (.slice e) => match P.info? e with
    | some i => match i.zero with
      | some z => if z.cells.size = i.size ∧ 0 < i.size then some (e, i.size, i.bytes) else none
      | none => none
    | none => none
  | _ => none
/-- an array type's length, its element's cells, whether the element is a struct or an array -/
def arE (P : Program) (t : TypeId) : Option (Nat × Nat × Bool) :=
  match P.underlying t with
  | some (.array n e) => match tyE P e with
    | some (k, ag) => some (n, k, ag)
    | none => none
  | _ => none
def isStr (P : Program) (t : TypeId) : Bool := match P.underlying t with | some .string => true | _ => false
def isInt (P : Program) (t : TypeId) : Option IntKind := match P.underlying t with | some (.int k) => some k | _ => none

def unG : V → V
  | .gd _ v => v
  | v => v
def okG : V → Prop
  | .gd b _ => b = true
  | _ => True
def pickB (c : Bool) (a b : V) : V :=
  match a, b with
  | .bool x, .bool y => .bool (bif c then x else y)
  | a, b => bif c then a else b
def pickV (c a b : V) : Option (Prop × V) :=
  match c with
  | .bool c => some ((c = true → okG a) ∧ (c = false → okG b), pickB c (unG a) (unG b))
  | _ => none

def binI (op : BinOp) (k : IntKind) (a b : Int) : Option (Prop × V) :=
  match op with
  | .add => some (True, .int k (k.wrap (a + b)))
  | .sub => some (True, .int k (k.wrap (a - b)))
  | .mul => some (True, .int k (k.wrap (a * b)))
  | .quo => some (b ≠ 0, .int k (k.wrap (a.tdiv b)))
  | .rem => some (b ≠ 0, .int k (a.tmod b))
  | .and => some (True, .int k (k.wrap (BitVec.ofInt k.bits a &&& BitVec.ofInt k.bits b).toNat))
  | .or => some (True, .int k (k.wrap (BitVec.ofInt k.bits a ||| BitVec.ofInt k.bits b).toNat))
  | .xor => some (True, .int k (k.wrap (BitVec.ofInt k.bits a ^^^ BitVec.ofInt k.bits b).toNat))
  | .andNot => some (True, .int k (k.wrap (BitVec.ofInt k.bits a &&& ~~~ BitVec.ofInt k.bits b).toNat))
  | .eql => some (True, .bool (a == b))
  | .neq => some (True, .bool (a != b))
  | .lss => some (True, .bool (decide (a < b)))
  | .leq => some (True, .bool (decide (a ≤ b)))
  | .gtr => some (True, .bool (decide (a > b)))
  | .geq => some (True, .bool (decide (a ≥ b)))
  | _ => none
def shI (op : BinOp) (k : IntKind) (a b : Int) : Option (Prop × V) :=
  match op with
  | .shl => some (0 ≤ b, .int k (k.wrap (a * 2 ^ (min b.toNat k.bits))))
  | .shr => some (0 ≤ b, .int k (a.fdiv (2 ^ (min b.toNat k.bits))))
  | _ => none
def binS (op : BinOp) (a b : List UInt8) : Option (Prop × V) :=
  match op with
  | .add => some (a.length + b.length ≤ 9223372036854775807, .str (a ++ b))
  | .eql => some (True, .bool (a == b))
  | .neq => some (True, .bool (a != b))
  | .lss => some (True, .bool (Op.bytesLess a b))
  | .leq => some (True, .bool (Op.bytesLess a b || a == b))
  | .gtr => some (True, .bool !(Op.bytesLess a b || a == b))
  | .geq => some (True, .bool !(Op.bytesLess a b))
  | _ => none
inductive Tg where | i | b | s
def eqFs (P : Program) (rc : TypeId → Option (List Tg)) : List Field → Nat → Option (List Tg)
  | [], _ => some []
  | f :: fs, o => match rc f.type, tyE P f.type with
    | some ts, some (m, ag) => bif (f.name != "_") && f.offset == o && m == ts.length && (ag || m == 1) && m != 0 then (match eqFs P rc fs (o + m) with | some r => some (ts ++ r) | none => none) else none
    | _, _ => none
def eqTs (P : Program) : Nat → TypeId → Option (List Tg)
  | 0, _ => none
  | d + 1, t => match P.underlying t with
    | some (.int _) => some [.i]
    | some .bool => some [.b]
    | some .string => some [.s]
    | some (.struct fs) => bif P.stoodInHeld t then none else eqFs P (eqTs P d) fs.toList 0
    | _ => none
/-- what the cells of a struct are, if they are its equality -/
def eqE (P : Program) (t : TypeId) : Option (List Tg) := match P.underlying t with
  | some (.struct _) => bif P.eqGuardType P.depth t then none else eqTs P 20 t
  | _ => none
def eqCs : List Tg → List V → List V → Option Bool
  | [], [], [] => some true
  | .i :: ts, .int k a :: xs, .int k' b :: ys => bif decide (k = k') then (match eqCs ts xs ys with | some r => some ((a == b) && r) | none => none) else none
  | .b :: ts, .bool a :: xs, .bool b :: ys => match eqCs ts xs ys with | some r => some ((a == b) && r) | none => none
  | .s :: ts, .str a :: xs, .str b :: ys => match eqCs ts xs ys with | some r => some ((a == b) && r) | none => none
  | _, _, _ => none
def isSh (op : BinOp) : Bool := match op with | .shl | .shr => true | _ => false
def binV (P : Program) (op : BinOp) (t : TypeId) (x y : V) : Option (Prop × V) :=
  match x, y with
  | .int k a, .int k' b => bif isSh op then shI op k a b else bif decide (k = k') then binI op k a b else none
  | .str a, .str b => binS op a b
  | .bool a, .bool b => match P.underlying t, op with
    | some .bool, .eql => some (True, .bool (a == b))
    | some .bool, .neq => some (True, .bool (a != b))
    | _, _ => none
  | .st as, .st bs => match eqE P t with
    | some ts => match eqCs ts as bs, op with
      | some r, .eql => some (True, .bool r)
      | some r, .neq => some (True, .bool !r)
      | _, _ => none
    | none => none
  | _, _ => none
def unV (op : UnOp) (x : V) : Option (Prop × V) :=
  match op, x with
  | .not, .bool b => some (True, .bool !b)
  | .neg, .int k n => some (True, .int k (k.wrap (0 - n)))
  | .xor, .int k n => some (True, .int k (k.wrap (BitVec.ofInt k.bits (if k.signed then -1 else k.max) ^^^ BitVec.ofInt k.bits n).toNat))
  | _, _ => none

def byteV (x : List V) : UInt8 := match x with | [.int _ n] => UInt8.ofNat n.toNat | _ => 0
def isByteV (x : List V) : Prop := ∃ b : UInt8, x = [.int .u8 b.toNat]

def bsE (P : Program) (t : TypeId) : Bool := match P.underlying t with
  | some (.slice e) => match P.underlying e with
    | some (.int .u8) => true
    | _ => false
  | _ => false

def boundV [Glo] (st : St) (x : Option Operand) : Option (Option Int) :=
  match x with
  | none => some none
  | some x => match ev st x with
    | .int _ n => some (some n)
    | _ => none

def slcV (P : Program) (t : TypeId) (x : V) (lo hi mx : Option (Option Int)) : Option (Prop × V) :=
  match x, lo, hi, mx with
  | .str s, some lo, some hi, some none => bif isStr P t then
      some (0 ≤ lo.getD 0 ∧ lo.getD 0 ≤ hi.getD s.length ∧ hi.getD s.length ≤ s.length, .str ((s.take (hi.getD s.length).toNat).drop (lo.getD 0).toNat)) else none
  | .sl sz tt xs, some lo, some hi, some mx => match slE P t with
    | some (_, s, _) =>
      some ((s = sz ∨ xs = []) ∧ 0 ≤ lo.getD 0 ∧ lo.getD 0 ≤ hi.getD xs.length ∧ hi.getD xs.length ≤ xs.length ∧ (∀ m, mx = some m → m = hi.getD xs.length ∧ hi.isSome),
        .sl sz (mx.isSome || (tt && hi.isNone)) ((xs.take (hi.getD xs.length).toNat).drop (lo.getD 0).toNat))
    | none => none
  | _, _, _, _ => none

/-- builtins that lay no memory and write none -/
def bv [Glo] (P : Program) (st : St) (b : Builtin) (args : List Operand) (tys : List TypeId) : Option (Prop × V) :=
  match b, args, tys with
  | .len, [x], [t] => match ev st x with
    | .str s => bif isStr P t then some (True, .int .i64 s.length) else none
    | .sl _ _ xs => match slE P t with
      | some _ => some (True, .int .i64 xs.length)
      | none => none
    | .own id => match slE P t, lookO st.ob id with
      | some _, some o => some (True, .int .i64 o.xs.length)
      | _, _ => none
    | _ => none
  | .min, [x, y], _ => match ev st x, ev st y with
    | .int k a, .int _ b => some (True, .int k (if b < a then b else a))
    | _, _ => none
  | .max, [x, y], _ => match ev st x, ev st y with
    | .int k a, .int _ b => some (True, .int k (if b > a then b else a))
    | _, _ => none
  | _, _, _ => none

/-- The operations that lay no memory and write none: what must hold, and the value. -/
def pv [Glo] (P : Program) (st : St) (op : Op) : Option (Prop × V) :=
  match op with
  | .move x => some (True, ev st x)
  | .assign x => some (True, ev st x)
  | .pick c a b => pickV (ev st c) (ev st a) (ev st b)
  | .load t a => match tyE P t with
    | none => none
    | some (n, ag) => bif ag || n == 1 then (match ev st a with
      | .ptr id sz i off => match lookO st.ob id with
        | some o => some (sz = o.sz ∧ i < o.xs.length ∧ off + n ≤ sz, mkV ag (((o.xs.getD i []).drop off).take n))
        | none => none
      | .iptr cs => some (n ≤ cs.length, mkV ag (cs.take n))
      | _ => none) else none
  | .fieldAddr t x f => match fldE P t f with
    | none => none
    | some (o, _, _) => match ev st x with
      | .ptr id sz i off => some (True, .ptr id sz i (off + o))
      | .iptr cs => some (True, .iptr (cs.drop o))
      | _ => none
  | .field t x f => match fldE P t f with
    | none => none
    | some (o, n, ag) => bif ag || n == 1 then (match ev st x with
      | .st cs => some (o + n ≤ cs.length, mkV ag ((cs.drop o).take n))
      | _ => none) else none
  | .indexAddr t x ix => match ev st ix with
    | .int _ z => match ev st x with
      | .sl sz _ xs => match slE P t with
        | some (_, s, _) => some ((s = sz ∨ xs = []) ∧ 0 ≤ z ∧ z < xs.length, .iptr (xs.getD z.toNat []))
        | none => none
      | .own id => match slE P t, lookO st.ob id with
        | some (_, s, _), some o => some (s = o.sz ∧ 0 ≤ z ∧ z < o.xs.length, .ptr id o.sz z.toNat 0)
        | _, _ => none
      | .ptr id sz i off => match arE P t with
        | some (len, es, _) => some (0 ≤ z ∧ z < len, .ptr id sz i (off + z.toNat * es))
        | none => none
      | .iptr cs => match arE P t with
        | some (len, es, _) => some (0 ≤ z ∧ z < len, .iptr (cs.drop (z.toNat * es)))
        | none => none
      | _ => none
    | _ => none
  | .index t x ix => match ev st ix with
    | .int _ z => match ev st x with
      | .str s => bif isStr P t then some (0 ≤ z ∧ z < s.length, .int .u8 (s.getD z.toNat 0).toNat) else none
      | .st cs => match arE P t with
        | some (len, es, ag) => bif ag || es == 1 then some (0 ≤ z ∧ z < len ∧ z.toNat * es + es ≤ cs.length, mkV ag ((cs.drop (z.toNat * es)).take es)) else none
        | none => none
      | _ => none
    | _ => none
  | .binOp op t x y _ => binV P op t (ev st x) (ev st y)
  | .unOp op _ x => unV op (ev st x)
  | .convert s d x => match ev st x with
    | .int _ n => match isInt P d with
      | some k => some (True, .int k (k.wrap n))
      | none => none
    | .sl _ _ xs => bif bsE P s && isStr P d then some (∀ y ∈ xs, isByteV y, .str (xs.map byteV)) else none
    | .own id => match lookO st.ob id with
      | some o => bif bsE P s && isStr P d && !o.box then some (∀ y ∈ o.xs, isByteV y, .str (o.xs.map byteV)) else none
      | none => none
    | _ => none
  | .extract x i => match ev st x with
    | .tup vs => some (i < vs.length, vs.getD i .poi)
    | _ => none
  | .slice t x lo hi mx => slcV P t (ev st x) (boundV st lo) (boundV st hi) (boundV st mx)
  | .nilCheck x => match ev st x with
    | .ptr id sz i off => some (True, .ptr id sz i off)
    | .iptr cs => some (True, .iptr cs)
    | _ => none
  | .call c => match c.callee with
    | .builtin b => bv P st b c.args.toList c.argTypes.toList
    | _ => none
  | _ => none
end Go.Ab
