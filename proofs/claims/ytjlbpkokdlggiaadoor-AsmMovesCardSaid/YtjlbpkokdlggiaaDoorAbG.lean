/- Abstract states for walks, part 7: cells in rows: boxes, stores, literals. -/
import Derived.Test.YtjlbpkokdlggiaaDoorAbF
namespace Go.Ab
open Go.RowKit

def fz1 (ob : List (Nat × Option Ob)) (id : Nat) : List (Nat × Option Ob) :=
  match lookO ob id with
  | some o => (id, some { o with fz := true }) :: ob
  | none => ob
def fzs (ids : List Nat) (ob : List (Nat × Option Ob)) : List (Nat × Option Ob) := ids.foldl fz1 ob
def ownIds : List V → List Nat
  | [] => []
  | .own id :: r => id :: ownIds r
  | .omap id :: r => id :: ownIds r
  | _ :: r => ownIds r
/-- a cell as those see it who are handed it for reading -/
def pur1 (ob : List (Nat × Option Ob)) : V → V
  | .own id => match lookO ob id with
    | some o => bif o.box then .poi else .sl o.sz false o.xs
    | none => .poi
  | .omap id => match lookO ob id with
    | some o => bif o.box then .poi else .mp o.sz o.xs
    | none => .poi
  | .itr _ => .poi
  | .newm _ _ _ => .poi
  | .ptr _ _ _ _ => .poi
  | .part _ _ _ _ => .poi
  | .st _ => .poi
  | .tup _ => .poi
  | .new _ _ _ => .poi
  | .gd _ _ => .poi
  | v => v
def pur (ob : List (Nat × Option Ob)) : V → V
  | .st cs => .st (cs.map (pur1 ob))
  | v => pur1 ob v
/-- the cells of a value whose shape is known -/
def boxC : V → Option (List V)
  | .st cs => some cs
  | .poi => none
  | .tup _ => none
  | .new _ _ _ => none
  | .newm _ _ _ => none
  | .gd _ _ => none
  | v => some [v]
def spl {α : Type} : List α → Nat → List α → List α
  | xs, _, [] => xs
  | xs, k, v :: r => spl (xs.set k v) (k + 1) r
def zeroE (P : Program) (t : TypeId) : Option (List V) :=
  match P.info? t with
  | some i => match i.zero with
    | some z => bif z.cells.all (·.oneCell') then some (z.cells.toList.map of1) else none
    | none => none
  | none => none

theorem spl_length {α : Type} : ∀ (us : List α) (xs : List α) (k : Nat), (spl xs k us).length = xs.length
  | [], _, _ => rfl
  | u :: us, xs, k => by rw [spl, spl_length us]; simp
theorem spl_get {α : Type} : ∀ (us : List α) (xs : List α) (k j : Nat), k + us.length ≤ xs.length → (spl xs k us)[j]? = if k ≤ j ∧ j < k + us.length then us[j - k]? else xs[j]?
  | [], xs, k, j, _ => by simp [spl]; omega
  | u :: us, xs, k, j, h => by
    simp only [List.length_cons] at h
    rw [spl, spl_get us (xs.set k u) (k + 1) j (by simp; omega)]
    by_cases h1 : k + 1 ≤ j ∧ j < k + 1 + us.length
    · rw [if_pos h1, if_pos (by simp; omega), show j - k = (j - (k + 1)) + 1 by omega]; simp
    · rw [if_neg h1]
      by_cases h2 : j = k
      · subst h2
        rw [if_pos (by simp), Nat.sub_self]
        simp [show j < xs.length by omega]
      · rw [if_neg (by simp; omega), List.getElem?_set_ne (by omega)]

section
variable {P : Program} {base : Nat} {Xa : Nat → Prop} {w0 : W0} {w w' : World} {st : St} {a : Act} {M M' : Mp} {X X' : Nat → Prop} {n n' : Nat}

/-- A list of abstract cells and a row of values. -/
structure Cs (M : Mp) (w : World) (X : Nat → Prop) (n : Nat) (cs : List V) (us : List Value) : Prop where
  len : cs.length = us.length
  one : ∀ u ∈ us, u.oneCell' = true
  rel : ∀ (j : Nat) (c : V), cs[j]? = some c → R M w X n c (us.getD j undef)

theorem Cs.mono {cs : List V} {us : List Value} (h : Cs M w X n cs us) (hn : n ≤ n') (hM : ∀ i, i < n → M' i = M i) (hX : ∀ b, X b → X' b) (hw : ∀ b, X b → w'.heap[b]? = w.heap[b]?) : Cs M' w' X' n' cs us :=
  ⟨h.len, h.one, fun j c hc => (h.rel j c hc).mono hn hM hX hw⟩

theorem Cs.spl [Glo] {cs ds : List V} {us vs : List Value} (h : Cs M w X n cs us) (h' : Cs M w X n ds vs) (k : Nat) (hk : k + ds.length ≤ cs.length) : Cs M w X n (Ab.spl cs k ds) (Ab.spl us k vs) := by
  have e1 := h.len
  have e2 := h'.len
  refine ⟨by rw [spl_length, spl_length, e1], fun u hu => ?_, fun j c hc => ?_⟩
  · obtain ⟨j, hj⟩ := List.getElem?_of_mem hu
    rw [spl_get _ _ _ _ (by omega)] at hj
    split at hj
    · exact h'.one _ (List.mem_of_getElem? hj)
    · exact h.one _ (List.mem_of_getElem? hj)
  · rw [spl_get _ _ _ _ hk] at hc
    rw [List.getD_eq_getElem?_getD, spl_get _ _ _ _ (by omega)]
    by_cases hj : k ≤ j ∧ j < k + ds.length
    · rw [if_pos hj] at hc
      rw [if_pos (by omega), ← List.getD_eq_getElem?_getD]
      exact h'.rel _ _ hc
    · rw [if_neg hj] at hc
      rw [if_neg (by omega), ← List.getD_eq_getElem?_getD]
      exact h.rel _ _ hc

theorem Cs.one_ {v : V} {u : Value} (h : u.oneCell' = true) (hv : R M w X n v u) : Cs M w X n [v] [u] :=
  ⟨rfl, by simpa using h, fun j c hc => by
    cases j with
    | zero => simp only [List.getElem?_cons_zero, Option.some.injEq] at hc; subst hc; exact hv
    | succ j => simp at hc⟩

theorem boxC_R [Glo] {v : V} {u : Value} {cs : List V} (h : boxC v = some cs) (hv : R M w X n v u) : Cs M w X n cs u.cells.toList := by
  cases v with
  | st ds =>
    simp only [boxC, Option.some.injEq] at h
    subst h
    cases hv with
    | st _ _ _ hl h1 hr =>
      exact ⟨by simpa [Value.cells] using hl, by simpa [Value.cells] using h1, fun j c hc => by
        have := hr j c hc
        simpa [Value.cells, Array.getD_eq_getD_getElem?, List.getD_eq_getElem?_getD] using this⟩
  | poi => simp [boxC] at h
  | tup vs => simp [boxC] at h
  | new a b c => simp [boxC] at h
  | newm a b c => simp [boxC] at h
  | gd a b => simp [boxC] at h
  | _ =>
    simp only [boxC, Option.some.injEq] at h
    subst h
    have : u.oneCell' = true ∧ u.cells.toList = [u] := by cases hv <;> exact ⟨rfl, rfl⟩
    rw [this.2]
    exact .one_ this.1 hv

theorem pur1_R {ob : List (Nat × Option Ob)} {v : V} {u : Value} (hv : R M w X n v u) (hob : ∀ id o, lookO ob id = some o → ObOk base M n w X (M id) o) (hX : ∀ b, X b → X' b)
    (hown : ∀ id o g, v = .own id ∨ v = .omap id → lookO ob id = some o → (M id).ownB = some g → X' g) : R M' w X' 0 (pur1 ob v) u := by
  have hm : ∀ {v u}, R M w X 0 v u → R M' w X' 0 v u := fun h => h.mono (Nat.le_refl _) (fun _ h => absurd h (by omega)) hX (fun _ _ => rfl)
  cases hv with
  | poi => exact .poi _ _
  | bool _ b => exact .bool _ _
  | int _ k i => exact .int _ _ _
  | str _ s => exact .str _ _
  | st => exact .poi _ _
  | sl _ sz t xs A len c f hlen hc hm' ht hnil hs hA h =>
    exact .sl _ sz t xs A len c f hlen hc hm' ht hnil hs (fun h0 => by obtain ⟨ad, e, hx, hcell⟩ := hA h0; exact ⟨ad, e, hX _ hx, hcell⟩) fun j u hu => hm (h j u hu)
  | own _ id A l c hid hv =>
    simp only [pur1]
    split
    · rename_i o ho
      cases hb : o.box with
      | true => exact .poi _ _
      | false =>
        have hok := hob id o ho
        obtain ⟨vals, hrow, h1, hr⟩ := hok.row
        rw [hv] at hrow
        have hsz := hrow.1
        simp only [cond_false]
        rcases hrow.sl ⟨_, _, _, rfl⟩ with ⟨h2, h3⟩ | ⟨g, cap, cur, h2, hbg, hg, hnc, hcm, hcs, htake⟩
        · simp only [Value.slice.injEq] at h2
          obtain ⟨rfl, rfl, rfl⟩ := h2
          refine .sl _ _ _ _ _ _ _ (fun j => vals.getD j undef) h3.symm (Nat.le_refl _) (by simp) (fun h => by cases h) (fun _ => ⟨rfl, rfl⟩) hok.len (fun h0 => absurd h0 (by omega)) fun j u hu => ?_
          have := hr j u hu
          simp only [hb, Bool.false_eq_true, if_false] at this
          exact hm this
        · simp only [Value.slice.injEq] at h2
          obtain ⟨rfl, rfl, rfl⟩ := h2
          have hXg : X' g := hown id o g (.inl rfl) ho (by rw [hv]; rfl)
          by_cases hz : o.sz = 0
          · have := hok.pos hb; omega
          · refine .sl _ _ _ _ _ _ _ (fun j => vals.getD j undef) rfl hnc hcm (fun h => by cases h) (fun h => absurd h hz) hok.len (fun h0 => ⟨_, rfl, hXg, fun j hj => ?_⟩) fun j u hu => ?_
            · have hl : j < vals.length := by omega
              have hvj : vals[j]? = some (vals.getD j undef) := by rw [List.getD_eq_getElem?_getD, List.getElem?_eq_getElem hl]; rfl
              exact ⟨hrow.cells (g := g) rfl j _ hvj, h1 _ (List.mem_of_getElem? hvj)⟩
            · have := hr j u hu
              simp only [hb, Bool.false_eq_true, if_false] at this
              exact hm this
    · exact .poi _ _
  | ptr => exact .poi _ _
  | part => exact .poi _ _
  | clo _ f cs arr hl h => exact .clo _ f cs arr hl fun j u hu => hm (h j u hu)
  | omap _ id g hid hv =>
    simp only [pur1]
    split
    · rename_i o ho
      cases hb : o.box with
      | true => exact .poi _ _
      | false =>
        have hok := hob id o ho
        obtain ⟨vals, hrow, h1, hr⟩ := hok.row
        rw [hv] at hrow
        simp only [cond_false]
        rcases hrow.2 with ⟨h2, _⟩ | ⟨_, _, _, h2, _⟩ | ⟨g', es, clk, h2, hbg, hg, hn, hsz, hmo, rfl⟩ | ⟨_, _, _, h2, _⟩
        · cases h2
        · cases h2
        · simp only [Value.map.injEq, Option.some.injEq] at h2
          subst h2
          refine .mp _ _ _ _ es clk (hown id o g (.inr rfl) ho (by rw [hv]; rfl)) hg hn hsz hmo hok.len h1 fun j u hu => ?_
          have := hr j u hu
          simp only [hb, Bool.false_eq_true, if_false] at this
          exact hm this
        · cases h2
    · exact .poi _ _
  | itr => exact .poi _ _
  | mp _ sz xs g es clk hx hg hl hsz hok hs h1 h => exact .mp _ sz xs g es clk (hX _ hx) hg hl hsz hok hs h1 fun j u hu => hm (h j u hu)
  | iptr _ cs ad f hx hc h => exact .iptr _ cs ad f (hX _ hx) hc fun j u hu => hm (h j u hu)
  | tup => exact .poi _ _
  | fn _ f => exact .fn _ _
  | gd => exact .poi _ _
end
end Go.Ab
