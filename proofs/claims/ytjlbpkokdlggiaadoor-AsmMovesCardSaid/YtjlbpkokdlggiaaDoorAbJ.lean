/- Abstract states for walks, part 10: every operation. -/
import Derived.Test.YtjlbpkokdlggiaaDoorAbI
import Derived.ArgAppend
namespace Go.Ab
open Go.RowKit

/-- where a part of a struct or an array lies, and its cells -/
def plE (P : Program) (t : TypeId) (i : Nat) : Option (Nat × Nat) :=
  match P.underlying t with
  | some (.struct fs) => match fs[i]? with
    | some fd => match P.info? fd.type with
      | some inf => some (fd.offset, inf.size)
      | none => none
    | none => none
  | some (.array _ e) => match P.info? e with
    | some inf => some (i * inf.size, inf.size)
    | none => none
  | _ => none
/-- each field's type is known -/
def allE (P : Program) (t : TypeId) : Bool :=
  match P.underlying t with
  | some (.struct fs) => fs.all fun f => (P.info? f.type).isSome
  | some (.array _ e) => (P.info? e).isSome
  | _ => false

def chunk (s : Nat) : Nat → List V → List (List V)
  | 0, _ => []
  | k + 1, l => l.take s :: chunk s k (l.drop s)

theorem chunk_flat (s : Nat) : ∀ (k : Nat) (l : List V), l.length = k * s → (chunk s k l).flatten = l ∧ (∀ x ∈ chunk s k l, x.length = s) ∧ (chunk s k l).length = k
  | 0, l, h => by simp at h; subst h; simp [chunk]
  | k + 1, l, h => by
    rw [Nat.add_mul, Nat.one_mul] at h
    obtain ⟨h1, h2, h3⟩ := chunk_flat s k (l.drop s) (by rw [List.length_drop]; omega)
    refine ⟨by simp [chunk, h1], fun x hx => ?_, by simp [chunk, h3]⟩
    simp only [chunk, List.mem_cons] at hx
    rcases hx with rfl | hx
    · rw [List.length_take]; omega
    · exact h2 x hx

/-- what an append takes: the elements, of s cells each -/
def srcV (st : St) (s : Nat) (x : V) : Option (Prop × List (List V)) :=
  match x with
  | .sl sz _ ys => some (s = sz ∨ ys = [], ys)
  | .own id => match lookO st.ob id with
    | some o => bif o.box then none else some (s = o.sz, o.xs)
    | none => none
  | .part id sz lo len => match lookO st.ob id with
    | some o => bif o.box then none else some (s = o.sz ∧ s = sz, (o.xs.drop lo).take len)
    | none => none
  | _ => none
def notOwn (x : V) (id : Nat) : Prop := match x with | .own id' => id' ≠ id | _ => True

def appV (P : Program) (dst : Option Tmp) (t : TypeId) (s x : V) (K : St → Prop) (st : St) : Prop :=
  match slE P t with
  | some (e, sz, by_) => match srcV st sz x with
    | some (p, ys) => p ∧ (match s with
      | .own id => match lookO st.ob id with
        | some o => o.box = false ∧ o.fz = false ∧ o.ety = e ∧ o.sz = sz ∧ notOwn x id ∧ (o.xs.length + ys.length) * by_ ≤ 140737488355328 ∧ o.xs.length + ys.length ≤ maxLen ∧
          K ({ st with nx := st.nx + 1, ob := (st.nx, some ⟨e, sz, false, false, o.xs ++ ys⟩) :: (id, none) :: st.ob }.put dst (.own st.nx))
        | none => False
      | .sl sz' tt xs => (sz' = 0 ∨ (sz' = sz ∧ tt = true ∧ ys ≠ [])) ∧ (xs.length + ys.length) * by_ ≤ 140737488355328 ∧ xs.length + ys.length ≤ maxLen ∧
          K ({ st with nx := st.nx + 1, ob := (st.nx, some ⟨e, sz, false, false, xs ++ ys⟩) :: st.ob }.put dst (.own st.nx))
      | .part id _ lo k => match lookO st.ob id with
        | some o => o.box = false ∧ o.fz = false ∧ o.ety = e ∧ o.sz = sz ∧ lo = 0 ∧ k + ys.length ≤ o.xs.length ∧
          K ({ st with nx := st.nx + 1, ob := (st.nx, some ⟨e, sz, false, false, o.xs.take k ++ ys⟩) :: (id, none) :: st.ob }.put dst (.own st.nx))
        | none => False
      | _ => False)
    | none => False
  | none => False

def okGs : List V → Prop
  | [] => True
  | v :: r => okG v ∧ okGs r
theorem okGs_mem : ∀ {l : List V}, okGs l → ∀ v ∈ l, okG v
  | [], _, v, h => by simp at h
  | x :: l, h, v, hv => by
    rcases List.mem_cons.1 hv with rfl | hv
    · exact h.1
    · exact okGs_mem h.2 v hv
/-- behind a call that returned r; 'nf': what was handed over is not in the result -/
def aftC (nf : Nat) (dst : Option Tmp) (args : List V) (K : St → Prop) (st : St) (r : V) : Prop :=
  match nf with
  | _ + 1 => noX r ∧ K ({ st with nx := st.nx + r.fcells.length, ob := obsL st.nx r.fcells ++ st.ob }.put dst (opn st.nx r))
  | 0 => K ({ st with nx := st.nx + r.fcells.length, ob := obsL st.nx r.fcells ++ fzs (args.flatMap fun v : V => ownIds v.cells) st.ob }.put dst (opn st.nx r))
def callV [Glo] (P : Program) (dst : Option Tmp) (f : V) (args : List V) (K : St → Prop) (st : St) : Prop :=
  match f with
  | .fn f => okGs args ∧ ((∃ nf r, Meets P f ((args.map unG).map (pur st.ob)) r ∧ aftC nf dst (args.map unG) K st r) ∨ InlC P f (args.map unG) st.nx st.ob fun r nx ob => K ({ st with nx := nx, ob := ob }.put dst r))
  | .clo f cs => okGs args ∧ ∃ nf r, Meets P f ((args.map unG).map (pur st.ob) ++ cs) r ∧ aftC nf dst (args.map unG) K st r
  | _ => False

/-- the boxes that a function catches: their numbers and cells; nobody writes them any more -/
def catchV [Glo] (st : St) : List Operand → Option (List Nat × List V)
  | [] => some ([], [])
  | x :: r => match ev st x, catchV st r with
    | .ptr id _ 0 0, some (ids, cs) => match lookO st.ob id with
      | some b => match b.xs with
        | [row] => bif b.box && decide (ownIds row = []) then some (id :: ids, .iptr (row.map (pur1 st.ob)) :: cs) else none
        | _ => none
      | none => none
    | _, _ => none
/-- the cells of '[]byte(s)' -/
def bytesX (b : List UInt8) : List (List V) := b.map fun (c : UInt8) => [V.int .u8 (c.toNat : Int)]
/-- whether a type's zero value is a struct or an array -/
def zAg (P : Program) (t : TypeId) : Option Bool :=
  match P.info? t with
  | some i => match i.zero with
    | some (.agg _) => some true
    | some _ => some false
    | none => none
  | none => none
/-- a map with strings as keys: an entry's cells; whether the values are structs or arrays; a zero value's cells -/
def mpE (P : Program) (t : TypeId) : Option (Nat × Bool × List V) :=
  match P.underlying t with
  | some (.map k e) => match P.underlying k, tyE P e, zeroE P e with
    | some .string, some (n, ag), some z => bif (bif ag then decide (2 ≤ n) else n == 1) && z.length == n && zAg P e == some ag then some (n + 1, ag, z) else none
    | _, _, _ => none
  | _ => none
def mkey : List V → Option (List UInt8)
  | .str s :: _ => some s
  | _ => none
def midx (s : List UInt8) : List (List V) → Option Nat
  | [] => none
  | x :: r => if mkey x = some s then some 0 else (midx s r).map (· + 1)
def mkeys (xs : List (List V)) : Prop := ∀ x ∈ xs, (mkey x).isSome = true
def mput (s : List UInt8) (cs : List V) (xs : List (List V)) : List (List V) :=
  match midx s xs with
  | some i => xs.set i (.str s :: cs)
  | none => xs ++ [.str s :: cs]
def mget (s : List UInt8) (xs : List (List V)) : Option (List V) :=
  match midx s xs with
  | some i => (xs[i]?).map List.tail
  | none => none
/-- what 'm[k]' gives -/
def lkV (ag ok : Bool) (z : List V) (r : Option (List V)) : V :=
  match r with
  | some cs => bif ok then .tup [mkV ag cs, .bool true] else mkV ag cs
  | none => bif ok then .tup [mkV ag z, .bool false] else mkV ag z
def isSt : V → Bool
  | .st _ => true
  | _ => false
/-- the rune at a place of a string, and its width -/
def runeAt (s : List UInt8) (pos : Nat) : Nat × Nat := Utf8.decode ⟨s.toArray⟩ pos
/-- what an iterator over a string gives, and where it stands then -/
def nxV (s : List UInt8) (pos : Nat) : V := if pos < s.length then .tup [.bool true, .int .i64 pos, .int .i32 (runeAt s pos).1] else .tup [.bool false]
def nxP (s : List UInt8) (pos : Nat) : Nat := if pos < s.length then pos + (runeAt s pos).2 else pos
/-- EVERY OPERATION, its continuation behind it. -/
def opV [Glo] (P : Program) (o : Oper) (K : St → Prop) (st : St) : Prop :=
  match pv P st o.op with
  | some (p, v) => p ∧ K (st.put o.dst v)
  | none => match o.op with
    | .alloc t => match zeroE P t with
      | some cs => K ({ st with nx := st.nx + 1, ob := (st.nx, some ⟨t, cs.length, true, false, [cs]⟩) :: st.ob }.put o.dst (.ptr st.nx cs.length 0 0))
      | none => False
    | .box t x => match boxC (ev st x) with
      | some cs => K ({ st with nx := st.nx + 1, ob := (st.nx, some ⟨t, cs.length, true, false, [cs]⟩) :: st.ob }.put o.dst (.ptr st.nx cs.length 0 0))
      | none => False
    | .store t x y => match tyE P t, ev st x, boxC (ev st y) with
      | some (m, _), .ptr id sz i off, some ds => match lookO st.ob id with
        | some b => b.fz = false ∧ sz = b.sz ∧ i < b.xs.length ∧ off + m ≤ sz ∧ ds.length = m ∧
            (if b.box = true then K ({ st with ob := (id, some { b with xs := b.xs.set i (spl (b.xs.getD i []) off ds) }) :: st.ob }.put o.dst .poi)
             else id ∉ ownIds ds ∧ K ({ st with ob := (id, some { b with xs := b.xs.set i (spl (b.xs.getD i []) off (ds.map (pur1 st.ob))) }) :: fzs (ownIds ds) st.ob }.put o.dst .poi))
        | none => False
      | _, _, _ => False
    | .build t parts => match zeroE P t with
      | some zs => match fillV st (plE P t) zs parts.toList with
        | some cs => allE P t = true ∧ K (st.put o.dst (.st cs))
        | none => False
      | none => False
    | .buildSlice t len parts => match slE P t with
      | some (e, sz, _) => match zeroE P e with
        | some zs => match fillV st (fun i => some (i * sz, sz)) (List.replicate len zs).flatten parts.toList with
          | some cs => len * sz ≤ 16777216 ∧ K ({ st with nx := st.nx + 1, ob := (st.nx, some ⟨e, sz, false, false, chunk sz len (cs.map (pur1 st.ob))⟩) :: fzs (ownIds cs) st.ob }.put o.dst (.own st.nx))
          | none => False
        | none => False
      | none => False
    | .slice t x lo hi mx => match ev st x with
      | .own id => match lookO st.ob id with
        | some b => match slcV P t (.sl b.sz false b.xs) (boundV st lo) (boundV st hi) (boundV st mx) with
          | some (p, v) => p ∧ b.box = false ∧ K ({ st with ob := fz1 st.ob id }.put o.dst v)
          | none => False
        | none => False
      | _ => False
    | .binOp op t x y _ => match op, ev st x, y with
      | .eql, .sl _ _ xs, .const (.slice none 0 0) => (slE P t).isSome = true ∧ ∀ b : Bool, (b = true → xs = []) → K (st.put o.dst (.bool b))
      | _, _, _ => False
    | .convert s d x => match ev st x, slE P d with
      | .str b, some (e, _, _) => isStr P s = true ∧ bsE P d = true ∧ b.length ≤ maxLen ∧
          K ({ st with nx := st.nx + 1, ob := (st.nx, some ⟨e, 1, false, false, bytesX b⟩) :: st.ob }.put o.dst (.own st.nx))
      | .int _ n, none => isStr P d = true ∧ 0 ≤ n ∧ n < 128 ∧ K (st.put o.dst (.str [UInt8.ofNat n.toNat]))
      | _, _ => False
    | .makeFunc fn first caps => match fn, catchV st caps.toList with
      | .func f, some (ids, cs) => first = #[] ∧ K ({ st with ob := fzs ids st.ob }.put o.dst (.clo f cs))
      | _, _ => False
    | .call c => match c.callee with
      | .value f => callV P o.dst (ev st f) (c.args.toList.map (ev st)) K st
      | .builtin .append => match c.args.toList, c.argTypes.toList with
        | [s, x], [t, t'] => t = t' ∧ appV P o.dst t (ev st s) (ev st x) K st
        | _, _ => False
      | _ => False
    | .makeMap t none => match mpE P t with
      | some (sz, _, _) => K ({ st with nx := st.nx + 1, ob := (st.nx, some ⟨t, sz, false, false, []⟩) :: st.ob }.put o.dst (.omap st.nx))
      | none => False
    | .mapUpdate t m k x | .insert t m k x => match mpE P t, ev st m, ev st k, boxC (ev st x) with
      | some (sz, ag, _), .omap id, .str s, some cs => match lookO st.ob id with
        | some b => b.box = false ∧ b.fz = false ∧ b.sz = sz ∧ cs.length + 1 = sz ∧ isSt (ev st x) = ag ∧ mkeys b.xs ∧ ownIds cs = [] ∧
            K ({ st with ob := (id, some { b with xs := mput s (cs.map (pur1 st.ob)) b.xs }) :: st.ob }.put o.dst .poi)
        | none => False
      | _, _, _, _ => False
    | .lookup t m k ok => match mpE P t, ev st k with
      | some (sz, ag, z), .str s => match ev st m with
        | .omap id => match lookO st.ob id with
          | some b => b.box = false ∧ b.sz = sz ∧ mkeys b.xs ∧ K (st.put o.dst (lkV ag ok z (mget s b.xs)))
          | none => False
        | .mp sz' xs => sz' = sz ∧ mkeys xs ∧ K (st.put o.dst (lkV ag ok z (mget s xs)))
        | _ => False
      | _, _ => False
    | .range t x => match ev st x with
      | .str s => isStr P t = true ∧ K ({ st with nx := st.nx + 1, ob := (st.nx, some ⟨0, 2, false, false, [[.str s, .int .i64 0]]⟩) :: st.ob }.put o.dst (.itr st.nx))
      | _ => False
    | .next it true => match ev st it with
      | .itr id => match lookO st.ob id with
        | some b => match b.xs with
          | [[.str s, .int .i64 pos]] => b.box = false ∧ b.fz = false ∧ b.sz = 2 ∧ 0 ≤ pos ∧
              K ({ st with ob := (id, some { b with xs := [[.str s, .int .i64 (nxP s pos.toNat)]] }) :: st.ob }.put o.dst (nxV s pos.toNat))
          | _ => False
        | none => False
      | _ => False
    | .makeSlice t l c => match slE P t, ev st l, ev st c with
      | some (e, sz, by_), .int _ n, .int _ m => match zeroE P e with
        | some z => m = n ∧ 0 ≤ n ∧ n ≤ maxLen ∧ by_ * n.toNat ≤ 281474976710656 ∧ n.toNat * sz ≤ 16777216 ∧
            K ({ st with nx := st.nx + 1, ob := (st.nx, some ⟨e, sz, false, false, List.replicate n.toNat z⟩) :: st.ob }.put o.dst (.own st.nx))
        | none => False
      | _, _, _ => False
    | _ => False

def okO (P : Program) (n : Nat) (o : Oper) : Bool :=
  (match o.dst with | some d => decide (d < n) | none => true) && (match o.op with | .convert s _ _ => (P.underlying s).isSome | _ => true)

/-- the state with what is known under a guard of these slots -/
def fixG (st : St) : List Operand → St
  | [] => st
  | .tmp t :: r => match lkT st.tmp t with
    | .gd _ v => { fixG st r with tmp := (t, v) :: (fixG st r).tmp }
    | _ => fixG st r
  | _ :: r => fixG st r
def okAll (st : St) : List Operand → Prop
  | [] => True
  | .tmp t :: r => okG (lkT st.tmp t) ∧ okAll st r
  | _ :: r => okAll st r

/-- a call under a guard, as if it had been made: the result lays no memory -/
def uniV [Glo] (P : Program) (o : Oper) (b want : Bool) (K : St → Prop) (st : St) (r : V) : Prop :=
  match o.op with
  | .call c => match c.callee with
    | .value f => match ev st f with
      | .fn f => (b = want → okGs (c.args.toList.map (ev st)) ∧ Meets P f (((c.args.toList.map (ev st)).map unG).map (pur st.ob)) r) ∧ obsL st.nx r.fcells = [] ∧
          K ({ st with nx := st.nx + r.fcells.length, ob := fzs (((c.args.toList.map (ev st)).map unG).flatMap fun v : V => ownIds v.cells) st.ob }.put o.dst (.gd (b == want) (opn st.nx r)))
      | _ => False
    | _ => False
  | _ => False
/-- a call under a guard: by cases, or as one -/
def gcallV [Glo] (P : Program) (o : Oper) (b want : Bool) (K : St → Prop) (st : St) : Prop :=
  ((b = want → opV P o K st) ∧ (b = !want → K (st.put o.dst .poi))) ∨ ∃ r, uniV P o b want K st r
theorem gcall_cases [Glo] {P : Program} {o : Oper} {b want : Bool} {K : St → Prop} {st : St} (h : (b = want → opV P o K st) ∧ (b = !want → K (st.put o.dst .poi))) : gcallV P o b want K st := .inl h
theorem gcall_one [Glo] {P : Program} {o : Oper} {b want : Bool} {K : St → Prop} {st : St} (r : V) (h : uniV P o b want K st r) : gcallV P o b want K st := .inr ⟨r, h⟩

/-- the operands that an operation surely reads -/
def fixOps (op : Op) : List Operand := match op with | .pick c _ _ => [c] | op => op.operands.toList
/-- a guard's value, and the one that is wanted -/
def gdV (v : V) (want : Bool) : Option (Bool × Bool) :=
  match v with
  | .bool b => some (b, want)
  | .gd c (.bool b) => some (c && (b == want), true)
  | _ => none
/-- where the operations' values go -/
def slotsOf (ops : List Oper) : List (Option Tmp) := ops.map (·.dst)
theorem slotsOf_get (ops : List Oper) (j : Nat) : ((slotsOf ops)[j]?).join = (ops[j]?).bind (·.dst) := by
  simp only [slotsOf, List.getElem?_map]
  cases ops[j]? <;> rfl
/-- An operation under its guard. -/
def stepV [Glo] (P : Program) (ops : List (Option Tmp)) (o : Oper) (K : St → Prop) (st : St) : Prop :=
  match o.guard with
  | none => opV P o K st
  | some (j, want) => match (ops[j]?).join with
    | some d => match gdV (lkT st.tmp d) want with
      | some (b, want) => match pv P (fixG st (fixOps o.op)) o.op with
        | some (p, v) => (b = want → p ∧ okAll st (fixOps o.op)) ∧ K (st.put o.dst (.gd (b == want) v))
        | none => match o.op with
          | .call _ => gcallV P o b want K st
          | _ => (b = want → okAll st (fixOps o.op) ∧ opV P o K (fixG st (fixOps o.op))) ∧ (b = !want → K (st.put o.dst .poi))
      | none => False
    | none => False
def opsV [Glo] (P : Program) (ops : List (Option Tmp)) : List Oper → (St → Prop) → St → Prop
  | [], K, st => K st
  | o :: r, K, st => stepV P ops o (opsV P ops r K) st
end Go.Ab
