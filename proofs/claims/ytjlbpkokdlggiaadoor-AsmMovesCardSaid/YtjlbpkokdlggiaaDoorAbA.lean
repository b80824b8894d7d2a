/- Abstract states for walks: values without addresses, and what they say of the model's values and memory. Part 1: the relation. -/
import Derived.Test.YtjlbpkokdlggiaaDoorAbZ
namespace Go.Ab
open Go.RowKit

/-- An abstract value. 'sl': a slice whose cells nobody writes any more; 'own': a slice (or a box) of the call's own; 'ptr': a cell of such a one; 'iptr': a pointer to cells that nobody writes; 'new': in results alone: a slice in memory of its own; 'gd b v': v, if b; nothing, if not b; 'part': a stretch of a slice of the call's own; 'clo': a function with what it has caught; 'omap': a map of the call's own (each entry: the key, the value's cells); 'mp': a map that nobody writes any more; 'newm': in results alone: a map in memory of its own; 'itr': an iterator over a string. -/
inductive V where
  | poi
  | bool (b : Bool)
  | int (k : IntKind) (n : Int)
  | str (s : List UInt8)
  | st (cs : List V)
  | sl (sz : Nat) (tight : Bool) (xs : List (List V))
  | own (id : Nat)
  | ptr (id sz i off : Nat)
  | iptr (cs : List V)
  | tup (vs : List V)
  | new (ety sz : Nat) (xs : List (List V))
  | fn (f : FuncId)
  | gd (b : Bool) (v : V)
  | part (id sz lo len : Nat)
  | clo (f : FuncId) (cs : List V)
  | omap (id : Nat)
  | mp (sz : Nat) (xs : List (List V))
  | newm (ety sz : Nat) (xs : List (List V))
  | itr (id : Nat)
  deriving Inhabited

abbrev Mp := Nat → Value

/-- What an abstract value says of a value: n: how many objects have been numbered; X: the blocks that nobody writes any more. -/
inductive R (M : Mp) (w : World) (X : Nat → Prop) : Nat → V → Value → Prop where
  | poi (n : Nat) (v : Value) : R M w X n .poi v
  | bool (n : Nat) (b : Bool) : R M w X n (.bool b) (.bool b)
  | int (n : Nat) (k : IntKind) (i : Int) : R M w X n (.int k i) (.int k i)
  | str (n : Nat) (s : List UInt8) : R M w X n (.str s) (.string ⟨s.toArray⟩)
  | st (n : Nat) (cs : List V) (arr : Array Value) (hl : cs.length = arr.size) (h1 : ∀ u ∈ arr, u.oneCell' = true) (h : ∀ (j : Nat) (u : V), cs[j]? = some u → R M w X n u (arr.getD j undef)) : R M w X n (.st cs) (.agg arr)
  | sl (n sz : Nat) (t : Bool) (xs : List (List V)) (A : Option Addr) (len c : Nat) (f : Nat → Value) (hlen : len = xs.length) (hc : len ≤ c) (hm : c ≤ maxLen) (ht : t = true → c = len) (hnil : sz = 0 → A = none ∧ c = 0)
      (hs : ∀ x ∈ xs, x.length = sz)
      (hA : 0 < len → ∃ ad, A = some ad ∧ X ad.block ∧ ∀ j, j < len * sz → w.cell? (ad.add j) = some (f j) ∧ (f j).oneCell' = true)
      (h : ∀ (j : Nat) (u : V), xs.flatten[j]? = some u → R M w X 0 u (f j)) : R M w X n (.sl sz t xs) (.slice A len c)
  | own (n id : Nat) (A : Option Addr) (l c : Nat) (hid : id < n) (hv : M id = .slice A l c) : R M w X n (.own id) (.slice A l c)
  | ptr (n id sz i off g k : Nat) (hid : id < n) (hg : (M id).ownBlock = some g) (hk : k = i * sz + off) : R M w X n (.ptr id sz i off) (.pointer (some ⟨g, k, none⟩))
  | iptr (n : Nat) (cs : List V) (ad : Addr) (f : Nat → Value) (hX : X ad.block) (hc : ∀ j, j < cs.length → w.cell? (ad.add j) = some (f j) ∧ (f j).oneCell' = true)
      (h : ∀ (j : Nat) (u : V), cs[j]? = some u → R M w X 0 u (f j)) : R M w X n (.iptr cs) (.pointer (some ad))
  | tup (n : Nat) (vs : List V) (arr : Array Value) (hl : vs.length = arr.size) (h : ∀ (j : Nat) (u : V), vs[j]? = some u → R M w X n u (arr.getD j undef)) : R M w X n (.tup vs) (.tuple arr)
  | fn (n : Nat) (f : FuncId) : R M w X n (.fn f) (.func (.func f) #[] #[])
  | clo (n : Nat) (f : FuncId) (cs : List V) (arr : Array Value) (hl : arr.size = cs.length) (h : ∀ (j : Nat) (u : V), cs[j]? = some u → R M w X 0 u (arr.getD j undef)) : R M w X n (.clo f cs) (.func (.func f) #[] arr)
  | part (n id sz lo len g N cap : Nat) (hid : id < n) (hv : M id = .slice (some ⟨g, 0, none⟩) N cap) (hl : lo + len ≤ N) : R M w X n (.part id sz lo len) (.slice (some ⟨g, if cap = lo then 0 else lo * sz, none⟩) len (cap - lo))
  | omap (n id g : Nat) (hid : id < n) (hv : M id = .map (some g)) : R M w X n (.omap id) (.map (some g))
  | itr (n id g : Nat) (hid : id < n) (hv : M id = .pointer (some ⟨g, 0, none⟩)) : R M w X n (.itr id) (.pointer (some ⟨g, 0, none⟩))
  | mp (n sz : Nat) (xs : List (List V)) (g : Nat) (es : Array MapEntry) (clk : Nat) (hX : X g) (hg : w.heap[g]? = some (.map es clk)) (hn : xs.length = es.size) (hsz : 2 ≤ sz) (hok : ∀ e ∈ es.toList, mapOk sz e)
      (hs : ∀ x ∈ xs, x.length = sz) (h1 : ∀ u ∈ mapVals es.toList, u.oneCell' = true) (h : ∀ (j : Nat) (u : V), xs.flatten[j]? = some u → R M w X 0 u ((mapVals es.toList).getD j undef)) : R M w X n (.mp sz xs) (.map (some g))
  | gd (n : Nat) (b : Bool) (v : V) (u : Value) (h : b = true → R M w X n v u) (h0 : b = false → u = undef) : R M w X n (.gd b v) u

theorem R.mono {M M' : Mp} {n n' : Nat} {w w' : World} {X X' : Nat → Prop} {v : V} {u : Value} (h : R M w X n v u) (hn : n ≤ n') (hM : ∀ i, i < n → M' i = M i)
    (hX : ∀ b, X b → X' b) (hw : ∀ b, X b → w'.heap[b]? = w.heap[b]?) : R M' w' X' n' v u := by
  have hcell : ∀ (ad : Addr) (j : Nat), X ad.block → w'.cell? (ad.add j) = w.cell? (ad.add j) := fun ad j hx => World.cell?_of_block (by
    have : (ad.add j).block = ad.block := by unfold Addr.add; split <;> rfl
    rw [this]; exact hw _ hx)
  induction h generalizing n' with
  | poi n v => exact .poi _ v
  | bool n b => exact .bool _ b
  | int n k i => exact .int _ k i
  | str n s => exact .str _ s
  | st n cs arr hl h1 h ih => exact .st _ cs arr hl h1 fun j u hu => ih j u hu hn hM
  | sl n sz t xs A len c f hlen hc hm ht hnil hs hA h ih =>
    refine .sl _ sz t xs A len c f hlen hc hm ht hnil hs (fun h0 => ?_) fun j u hu => ih j u hu (Nat.le_refl _) (fun i hi => absurd hi (by omega))
    obtain ⟨ad, e, hx, hc'⟩ := hA h0
    exact ⟨ad, e, hX _ hx, fun j hj => ⟨(hcell ad j hx).trans (hc' j hj).1, (hc' j hj).2⟩⟩
  | own n id A l c hid hv => exact .own _ id A l c (by omega) (by rw [hM id hid]; exact hv)
  | ptr n id sz i off g k hid hg hk => exact .ptr _ id sz i off g k (by omega) (by rw [hM id hid]; exact hg) hk
  | iptr n cs ad f hx hc h ih =>
    exact .iptr _ cs ad f (hX _ hx) (fun j hj => ⟨(hcell ad j hx).trans (hc j hj).1, (hc j hj).2⟩) fun j u hu => ih j u hu (Nat.le_refl _) (fun i hi => absurd hi (by omega))
  | tup n vs arr hl h ih => exact .tup _ vs arr hl fun j u hu => ih j u hu hn hM
  | fn n f => exact .fn _ f
  | clo n f cs arr hl h ih => exact .clo _ f cs arr hl fun j u hu => ih j u hu (Nat.le_refl _) (fun i hi => absurd hi (by omega))
  | part n id sz lo len g N cap hid hv hl => exact .part _ id sz lo len g N cap (by omega) (by rw [hM id hid]; exact hv) hl
  | omap n id g hid hv => exact .omap _ id g (by omega) (by rw [hM id hid]; exact hv)
  | itr n id g hid hv => exact .itr _ id g (by omega) (by rw [hM id hid]; exact hv)
  | mp n sz xs g es clk hx hg hl hsz hok hs h1 h ih =>
    exact .mp _ sz xs g es clk (hX _ hx) ((hw _ hx).trans hg) hl hsz hok hs h1 fun j u hu => ih j u hu (Nat.le_refl _) (fun i hi => absurd hi (by omega))
  | gd n b v u h h0 ih => exact .gd _ b v u (fun hb => ih hb hn hM) h0

/-- The package's variables that are read: their cells; and whatever else is known of every world (it stays when nothing that was there is turned). -/
class Glo where
  tab : List (Nat × List V)
  inv : World → Prop
  mono : ∀ {w w' : World}, inv w → Below w.heap.size w w' → inv w'
def lookG : List (Nat × List V) → Nat → Option (List V)
  | [], _ => none
  | (k, cs) :: r, g => if g = k then some cs else lookG r g
def GIn [Glo] (w : World) (X : Nat → Prop) : Prop := Glo.inv w ∧ ∀ g cs, lookG Glo.tab g = some cs → ∀ (M : Mp) (n : Nat), R M w X n (.iptr cs) (.pointer (some ⟨g, 0, none⟩))
theorem GIn.to [Glo] {w : World} {X X' : Nat → Prop} (h : GIn w X) (hX : ∀ b, X b → X' b) : GIn w X' := ⟨h.1, fun g cs hg M n => (h.2 g cs hg M n).mono (Nat.le_refl _) (fun _ _ => rfl) hX (fun _ _ => rfl)⟩
def XaOk [Glo] (base : Nat) (Xa : Nat → Prop) (w0 : World) : Prop := (∀ b, Xa b → b < base) ∧ GIn w0 Xa ∧ base = w0.heap.size

/-- An object of the call's own: a box (one element) or the array behind a slice. 'fz': nobody writes it any more. -/
structure Ob where
  ety : Nat
  sz : Nat
  box : Bool
  fz : Bool
  xs : List (List V)
  deriving Inhabited

structure St where
  n : Nat                       -- slots of the frame
  tmp : List (Nat × V)          -- what is known of them
  nx : Nat                      -- objects numbered so far
  ob : List (Nat × Option Ob)
  pn : Nat := 0                 -- objects below this number keep their numbers (a caller's)
  deriving Inhabited

def lkT : List (Nat × V) → Nat → V
  | [], _ => .poi
  | (k, v) :: r, t => if t = k then v else lkT r t

def lookO : List (Nat × Option Ob) → Nat → Option Ob
  | [], _ => none
  | (k, o) :: r, t => if t = k then o else lookO r t

/-- The blocks that nobody writes any more: those that came in so, and those laid since, but for the blocks of the objects that are still written. -/
def Xf (base : Nat) (Xa : Nat → Prop) (w : World) (M : Mp) (ob : List (Nat × Option Ob)) (b : Nat) : Prop :=
  (Xa b ∨ (base ≤ b ∧ b < w.heap.size)) ∧ ∀ id o, lookO ob id = some o → o.fz = false → (M id).ownB ≠ some b

structure ObOk (base : Nat) (M : Mp) (n : Nat) (w : World) (X : Nat → Prop) (v : Value) (o : Ob) : Prop where
  pos : o.box = false → 0 < o.sz
  len : ∀ x ∈ o.xs, x.length = o.sz
  row : ∃ vals : List Value, w.ownsG base o.ety o.sz v o.xs.length vals ∧ (∀ u ∈ vals, u.oneCell' = true) ∧ ∀ (j : Nat) (u : V), o.xs.flatten[j]? = some u → R M w X (if o.box then n else 0) u (vals.getD j undef)

/-- the world in which a call began, and what is known of values beside the frame (a caller's slots) -/
structure W0 where
  w : World
  pm : Mp
  gh : Mp → Nat → V → Value → Prop
def W0.of (w : World) : W0 := ⟨w, fun _ => undef, fun _ _ _ _ => False⟩
structure RelM [Glo] (base : Nat) (Xa : Nat → Prop) (w0 : W0) (st : St) (a : Act) (w : World) (M : Mp) : Prop where
  below : Below base w0.w w
  hbase : base ≤ w.heap.size
  xa : XaOk base Xa w0.w
  gh : ∀ m n v u, w0.gh m n v u → R m w (Xf base Xa w M st.ob) n v u
  pin : st.pn ≤ st.nx ∧ ∀ i, i < st.pn → M i = w0.pm i
  defers : a.defers = []
  size : a.tmps.size = st.n
  tmps : ∀ t, R M w (Xf base Xa w M st.ob) st.nx (lkT st.tmp t) (a.tmps.getD t undef)
  obs : ∀ id o, lookO st.ob id = some o → id < st.nx ∧ ObOk base M st.nx w (Xf base Xa w M st.ob) (M id) o
  dist : ∀ id id' o o' g, lookO st.ob id = some o → lookO st.ob id' = some o' → id ≠ id' → (M id).ownB = some g → (M id').ownB ≠ some g

def Rel [Glo] (base : Nat) (Xa : Nat → Prop) (w0 : W0) (st : St) (a : Act) (w : World) : Prop := ∃ M, RelM base Xa w0 st a w M
end Go.Ab
