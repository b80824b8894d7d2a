/- Abstract states for walks, part 9: contracts. -/
import Derived.Test.YtjlbpkokdlggiaaDoorAbH
namespace Go.Ab
open Go.RowKit

def V.fcells : V → List V
  | .tup vs => vs.flatMap V.cells
  | v => v.cells
def vcells : Value → List Value
  | .tuple vs => vs.toList.flatMap (·.cells.toList)
  | v => v.cells.toList
def opn1 (n : Nat) : V → V
  | .new _ _ _ => .own n
  | .newm _ _ _ => .omap n
  | v => v
def opnL : Nat → List V → List V
  | _, [] => []
  | n, c :: r => opn1 n c :: opnL (n + 1) r
def opnC (n : Nat) : V → V
  | .st cs => .st (opnL n cs)
  | v => opn1 n v
def opnT : Nat → List V → List V
  | _, [] => []
  | n, v :: r => opnC n v :: opnT (n + v.cells.length) r
/-- the result with numbers for what came in memory of its own -/
def opn (n : Nat) : V → V
  | .tup vs => .tup (opnT n vs)
  | v => opnC n v
def obsL : Nat → List V → List (Nat × Option Ob)
  | _, [] => []
  | n, .new e s xs :: r => (n, some ⟨e, s, false, false, xs⟩) :: obsL (n + 1) r
  | n, .newm e s xs :: r => (n, some ⟨e, s, false, false, xs⟩) :: obsL (n + 1) r
  | n, _ :: r => obsL (n + 1) r

theorem obsL_some : ∀ (cs : List V) (n id : Nat) (o : Ob), lookO (obsL n cs) id = some o → ∃ j e s xs, id = n + j ∧ (cs[j]? = some (.new e s xs) ∨ cs[j]? = some (.newm e s xs)) ∧ o = ⟨e, s, false, false, xs⟩
  | [], n, id, o, h => by simp [obsL, lookO] at h
  | c :: r, n, id, o, h => by
    have rec_ : lookO (obsL (n + 1) r) id = some o → ∃ j e s xs, id = n + j ∧ ((c :: r)[j]? = some (.new e s xs) ∨ (c :: r)[j]? = some (.newm e s xs)) ∧ o = ⟨e, s, false, false, xs⟩ := fun h => by
      obtain ⟨j, e, s, xs, h1, h2, h3⟩ := obsL_some r (n + 1) id o h
      exact ⟨j + 1, e, s, xs, by omega, by simpa using h2, h3⟩
    cases c with
    | new e s xs =>
      simp only [obsL, lookO] at h
      split at h
      · rename_i he
        simp only [Option.some.injEq] at h
        exact ⟨0, e, s, xs, by omega, .inl rfl, h.symm⟩
      · exact rec_ h
    | newm e s xs =>
      simp only [obsL, lookO] at h
      split at h
      · rename_i he
        simp only [Option.some.injEq] at h
        exact ⟨0, e, s, xs, by omega, .inr rfl, h.symm⟩
      · exact rec_ h
    | _ => exact rec_ (by simpa only [obsL] using h)

theorem lookO_app : ∀ (l r : List (Nat × Option Ob)) (id : Nat), (∀ x ∈ l, x.2.isSome = true) → lookO (l ++ r) id = match lookO l id with | some o => some o | none => lookO r id
  | [], r, id, _ => by simp [lookO]
  | (k, o) :: l, r, id, h => by
    simp only [List.cons_append, lookO]
    split
    · have := h (k, o) (List.mem_cons_self ..)
      simp only at this
      cases o with
      | none => simp at this
      | some o => rfl
    · exact lookO_app l r id (fun x hx => h x (List.mem_cons_of_mem _ hx))

theorem obsL_isSome : ∀ (cs : List V) (n : Nat), ∀ x ∈ obsL n cs, x.2.isSome = true
  | [], n, x, h => by simp [obsL] at h
  | c :: r, n, x, h => by
    cases c with
    | new e s xs =>
      simp only [obsL, List.mem_cons] at h
      rcases h with rfl | h
      · rfl
      · exact obsL_isSome r (n + 1) x h
    | newm e s xs =>
      simp only [obsL, List.mem_cons] at h
      rcases h with rfl | h
      · rfl
      · exact obsL_isSome r (n + 1) x h
    | _ => exact obsL_isSome r (n + 1) x (by simpa only [obsL] using h)

/-- 'wk1 v w': whatever v says, w says no more (one cell) -/
def wk1 : V → V → Prop
  | .sl z t xs, .sl z' t' xs' => xs = xs' ∧ (t' = true → t = true) ∧ (z' = z ∨ (xs = [] ∧ z' ≠ 0))
  | v, v' => v = v'
def wkL : List V → List V → Prop
  | [], [] => True
  | a :: r, b :: s => wk1 a b ∧ wkL r s
  | _, _ => False
def wkC : V → V → Prop
  | .st cs, .st cs' => wkL cs cs'
  | v, v' => wk1 v v'
def wkT : List V → List V → Prop
  | [], [] => True
  | a :: r, b :: s => wkC a b ∧ wkT r s
  | _, _ => False
def wkR : V → V → Prop
  | .tup vs, .tup vs' => wkT vs vs'
  | v, v' => wkC v v'
theorem wk1_cases {v v' : V} (h : wk1 v v') : v = v' ∨ ∃ z t xs z' t', v = .sl z t xs ∧ v' = .sl z' t' xs ∧ (t' = true → t = true) ∧ (z' = z ∨ (xs = [] ∧ z' ≠ 0)) := by
  unfold wk1 at h
  split at h
  · obtain ⟨rfl, h1, h2⟩ := h; exact .inr ⟨_, _, _, _, _, rfl, rfl, h1, h2⟩
  · exact .inl h
@[simp] theorem wk1_refl (v : V) : wk1 v v := by
  cases v <;> simp [wk1]
@[simp] theorem wkL_refl [Glo] : ∀ cs : List V, wkL cs cs
  | [] => trivial
  | c :: cs => ⟨wk1_refl c, wkL_refl cs⟩
@[simp] theorem wkC_refl [Glo] (v : V) : wkC v v := by
  unfold wkC; cases v <;> first | exact wkL_refl _ | exact wk1_refl _
@[simp] theorem wkT_refl [Glo] : ∀ cs : List V, wkT cs cs
  | [] => trivial
  | c :: cs => ⟨wkC_refl c, wkT_refl cs⟩
@[simp] theorem wkR_refl [Glo] (v : V) : wkR v v := by
  unfold wkR; cases v <;> first | exact wkT_refl _ | exact wkC_refl _
theorem wkL_len : ∀ {cs cs' : List V}, wkL cs cs' → cs.length = cs'.length
  | [], [], _ => rfl
  | _ :: _, _ :: _, h => by simp [wkL_len h.2]
  | [], _ :: _, h => h.elim
  | _ :: _, [], h => h.elim
theorem wkL_get : ∀ {cs cs' : List V} (_ : wkL cs cs') (j : Nat) (u' : V), cs'[j]? = some u' → ∃ u, cs[j]? = some u ∧ wk1 u u'
  | [], [], _, j, u', hu => by simp at hu
  | a :: cs, b :: cs', h, 0, u', hu => by simp at hu; subst hu; exact ⟨a, rfl, h.1⟩
  | a :: cs, b :: cs', h, j + 1, u', hu => by simpa using wkL_get h.2 j u' (by simpa using hu)
  | [], _ :: _, h, _, _, _ => h.elim
  | _ :: _, [], h, _, _, _ => h.elim
theorem wkT_len : ∀ {cs cs' : List V}, wkT cs cs' → cs.length = cs'.length
  | [], [], _ => rfl
  | _ :: _, _ :: _, h => by simp [wkT_len h.2]
  | [], _ :: _, h => h.elim
  | _ :: _, [], h => h.elim
theorem wkT_get : ∀ {cs cs' : List V} (_ : wkT cs cs') (j : Nat) (u' : V), cs'[j]? = some u' → ∃ u, cs[j]? = some u ∧ wkC u u'
  | [], [], _, j, u', hu => by simp at hu
  | a :: cs, b :: cs', h, 0, u', hu => by simp at hu; subst hu; exact ⟨a, rfl, h.1⟩
  | a :: cs, b :: cs', h, j + 1, u', hu => by simpa using wkT_get h.2 j u' (by simpa using hu)
  | [], _ :: _, h, _, _, _ => h.elim
  | _ :: _, [], h, _, _, _ => h.elim
theorem wk1_R [Glo] {M : Mp} {w : World} {X : Nat → Prop} {n : Nat} {v v' : V} {u : Value} (h : wk1 v v') (hr : R M w X n v u) : R M w X n v' u := by
  rcases wk1_cases h with rfl | ⟨z, t, xs, z', t', rfl, rfl, h1, h2⟩
  · exact hr
  · obtain ⟨A, c, f, rfl, hc, hm, ht, hnil, hs, hA, hf⟩ := R_sl hr
    rcases h2 with rfl | ⟨rfl, hz⟩
    · exact .sl _ _ _ _ _ _ _ f rfl hc hm (fun e => ht (h1 e)) hnil hs hA hf
    · exact .sl _ _ _ _ _ _ _ f rfl hc hm (fun e => ht (h1 e)) (fun e => absurd e hz) (by simp) (by simp) hf
theorem wkC_R [Glo] {M : Mp} {w : World} {X : Nat → Prop} {n : Nat} {v v' : V} {u : Value} (h : wkC v v') (hr : R M w X n v u) : R M w X n v' u := by
  unfold wkC at h
  split at h
  · cases hr with
    | st _ _ arr hl h1 hh =>
      refine .st _ _ _ (by rw [← wkL_len h, hl]) h1 fun j u' hu => ?_
      obtain ⟨u, e, hw⟩ := wkL_get h j u' hu
      exact wk1_R hw (hh j u e)
  · exact wk1_R h hr
theorem wk1_opn [Glo] {v v' : V} (h : wk1 v v') (n : Nat) : wk1 (opn1 n v) (opn1 n v') := by
  rcases wk1_cases h with rfl | ⟨z, t, xs, z', t', rfl, rfl, h1, h2⟩
  · simp
  · exact ⟨rfl, h1, h2⟩
theorem wkL_opn [Glo] : ∀ {cs cs' : List V} (_ : wkL cs cs') (n : Nat), wkL (opnL n cs) (opnL n cs')
  | [], [], _, _ => trivial
  | _ :: _, _ :: _, h, n => ⟨wk1_opn h.1 n, wkL_opn h.2 (n + 1)⟩
  | [], _ :: _, h, _ => h.elim
  | _ :: _, [], h, _ => h.elim
theorem wkC_notst [Glo] {v v' : V} (h : wkC v v') : (∃ cs cs', v = .st cs ∧ v' = .st cs' ∧ wkL cs cs') ∨ (wk1 v v' ∧ ((∃ cs, v = .st cs) ∨ ∃ cs, v' = .st cs) → v = v') ∧ wk1 v v' := by
  unfold wkC at h
  split at h
  · exact .inl ⟨_, _, rfl, rfl, h⟩
  · refine .inr ⟨fun ⟨h1, h2⟩ => ?_, h⟩
    rcases wk1_cases h1 with e | ⟨z, t, xs, z', t', rfl, rfl, _⟩
    · exact e
    · rcases h2 with ⟨_, h⟩ | ⟨_, h⟩ <;> cases h
theorem wkC_cells [Glo] {v v' : V} (h : wkC v v') : wkL v.cells v'.cells := by
  unfold wkC at h
  split at h
  · exact h
  · rcases wk1_cases h with rfl | ⟨z, t, xs, z', t', rfl, rfl, h1, h2⟩
    · simp
    · exact ⟨⟨rfl, h1, h2⟩, trivial⟩
theorem wkC_opn [Glo] {v v' : V} (h : wkC v v') (n : Nat) : wkC (opnC n v) (opnC n v') := by
  unfold wkC at h
  split at h
  · exact wkL_opn h n
  · rcases wk1_cases h with rfl | ⟨z, t, xs, z', t', rfl, rfl, h1, h2⟩
    · simp
    · exact ⟨rfl, h1, h2⟩
theorem wkL_app : ∀ {a b c d : List V}, wkL a b → wkL c d → wkL (a ++ c) (b ++ d)
  | [], [], _, _, _, h => h
  | _ :: _, _ :: _, _, _, h, h' => ⟨h.1, wkL_app h.2 h'⟩
  | [], _ :: _, _, _, h, _ => h.elim
  | _ :: _, [], _, _, h, _ => h.elim
theorem wkT_cells [Glo] : ∀ {vs vs' : List V}, wkT vs vs' → wkL (vs.flatMap V.cells) (vs'.flatMap V.cells)
  | [], [], _ => trivial
  | _ :: _, _ :: _, h => by simp only [List.flatMap_cons]; exact wkL_app (wkC_cells h.1) (wkT_cells h.2)
  | [], _ :: _, h => h.elim
  | _ :: _, [], h => h.elim
theorem wkT_opn [Glo] : ∀ {vs vs' : List V} (_ : wkT vs vs') (n : Nat), wkT (opnT n vs) (opnT n vs')
  | [], [], _, _ => trivial
  | _ :: _, _ :: _, h, n => ⟨wkC_opn h.1 n, by rw [wkL_len (wkC_cells h.1)]; exact wkT_opn h.2 _⟩
  | [], _ :: _, h, _ => h.elim
  | _ :: _, [], h, _ => h.elim
theorem wkR_R [Glo] {M : Mp} {w : World} {X : Nat → Prop} {n : Nat} {v v' : V} {u : Value} (h : wkR v v') (hr : R M w X n v u) : R M w X n v' u := by
  unfold wkR at h
  split at h
  · cases hr with
    | tup _ _ arr hl hh =>
      refine .tup _ _ _ (by rw [← wkT_len h, hl]) fun j u' hu => ?_
      obtain ⟨u, e, hw⟩ := wkT_get h j u' hu
      exact wkC_R hw (hh j u e)
  · exact wkC_R h hr
theorem wkR_opn [Glo] {v v' : V} (h : wkR v v') (n : Nat) : wkR (opn n v) (opn n v') := by
  unfold wkR at h
  split at h
  · exact wkT_opn h n
  · rename_i hno
    have key : wkC (opnC n v) (opnC n v') := wkC_opn h n
    have h1 : (∀ vs, v ≠ .tup vs) ∨ v = v' := by
      cases v <;> try (left; intro vs e; cases e; done)
      right
      rename_i vs
      rcases wk1_cases (show wk1 (.tup vs) v' from (by unfold wkC at h; exact h)) with e | ⟨_, _, _, _, _, e, _⟩
      · exact e
      · cases e
    rcases h1 with h1 | rfl
    · have h2 : ∀ vs, v' ≠ .tup vs := by
        intro vs e; subst e
        have : wk1 v (.tup vs) := by cases v <;> exact h
        rcases wk1_cases this with e | ⟨_, _, _, _, _, _, e, _⟩
        · exact h1 vs e
        · cases e
      have e1 : ∀ v : V, (∀ vs, v ≠ .tup vs) → opn n v = opnC n v := fun v hv => by cases v <;> first | rfl | exact absurd rfl (hv _)
      rw [e1 v h1, e1 v' h2]
      unfold wkR
      split
      · rename_i e _; exfalso; revert e; cases v <;> simp [opnC, opn1]; exact fun _ => h1 _ rfl
      · exact key
    · simp
theorem wkR_fcells [Glo] {v v' : V} (h : wkR v v') : wkL v.fcells v'.fcells := by
  unfold wkR at h
  split at h
  · exact wkT_cells h
  · have := wkC_cells h
    rcases wkC_notst h with ⟨_, _, rfl, rfl, h'⟩ | ⟨_, h'⟩
    · exact h'
    · rcases wk1_cases h' with rfl | ⟨z, t, xs, z', t', rfl, rfl, h1, h2⟩
      · simp
      · exact this
theorem wkL_obs [Glo] : ∀ {cs cs' : List V} (_ : wkL cs cs') (n : Nat), obsL n cs = obsL n cs'
  | [], [], _, _ => rfl
  | a :: _, b :: _, h, n => by
    have ih := wkL_obs h.2 (n + 1)
    rcases wk1_cases h.1 with rfl | ⟨z, t, xs, z', t', rfl, rfl, h1, h2⟩
    · cases a <;> simp [obsL, ih]
    · simp [obsL, ih]
  | [], _ :: _, h, _ => h.elim
  | _ :: _, [], h, _ => h.elim
def noX1 : V → Bool
  | .sl _ _ xs => xs.isEmpty
  | .iptr _ => false
  | .clo _ _ => false
  | .st _ => false
  | .tup _ => false
  | .gd _ _ => false
  | .mp _ _ => false
  | _ => true
def noXc : V → Prop
  | .new _ _ xs => ∀ x ∈ xs, ∀ c ∈ x, noX1 c = true
  | .newm _ _ xs => ∀ x ∈ xs, ∀ c ∈ x, noX1 c = true
  | c => noX1 c = true
/-- no part of the result lies in memory that was there before the call -/
def noX (v : V) : Prop := ∀ c ∈ v.fcells, noXc c

/-- WHAT A RESULT SAYS OF A VALUE behind a call that began with 'base' blocks, its arguments in the blocks Xa. -/
def Res (base : Nat) (Xa : Nat → Prop) (w : World) (r : V) (val : Value) : Prop :=
  ∀ (M : Mp) (n : Nat), (∀ j, j < r.fcells.length → M (n + j) = (vcells val).getD j undef) →
    R M w (Xf base Xa w M (obsL n r.fcells)) (n + r.fcells.length) (opn n r) val ∧
    (∀ id o, lookO (obsL n r.fcells) id = some o → ObOk base M (n + r.fcells.length) w (Xf base Xa w M (obsL n r.fcells)) (M id) o) ∧
    ∀ id id' o o' g, lookO (obsL n r.fcells) id = some o → lookO (obsL n r.fcells) id' = some o' → id ≠ id' → (M id).ownB = some g → (M id').ownB ≠ some g

def callable (P : Program) (f : FuncId) : Bool :=
  match P.funcs[f]? with
  | some fn => !(fn.name == "runtime.NumGoroutine") && fn.body.isSome
  | none => false

/-- THE CONTRACT: called with arguments that say 'args', function f returns what says 'r', and nothing that was there has turned. -/
def Meets [Glo] (P : Program) (f : FuncId) (args : List V) (r : V) : Prop :=
  callable P f = true ∧ ∀ (w : World) (Xa : Nat → Prop) (vals : Array Value) (M : Mp), XaOk w.heap.size Xa w → vals.size = args.length →
    (∀ (j : Nat) (u : V), args[j]? = some u → R M w Xa 0 u (vals.getD j undef)) →
    Calls P f vals w fun e w' => ∃ val, e = .returned val ∧ Below w.heap.size w w' ∧ Res w.heap.size Xa w' r val

theorem Res.wk [Glo] {base : Nat} {Xa : Nat → Prop} {w : World} {r r' : V} {val : Value} (h : Res base Xa w r val) (hw : wkR r r') : Res base Xa w r' val := fun M n hM => by
  have hf := wkR_fcells hw
  have hl := wkL_len hf
  obtain ⟨h1, h2, h3⟩ := h M n (fun j hj => hM j (by omega))
  rw [wkL_obs hf n, hl] at h1 h2
  rw [wkL_obs hf n] at h3
  exact ⟨wkR_R (wkR_opn hw n) h1, h2, h3⟩
theorem Meets.wk [Glo] {P : Program} {f : FuncId} {args args' : List V} {r : V} (h : Meets P f args' r) (hw : wkT args args') : Meets P f args r :=
  ⟨h.1, fun w Xa vals M hXa hs hr => h.2 w Xa vals M hXa (by rw [hs, wkT_len hw]) fun j u' hu => by
    obtain ⟨u, e, hw'⟩ := wkT_get hw j u' hu
    exact wkC_R hw' (hr j u e)⟩
theorem Meets.wkr [Glo] {P : Program} {f : FuncId} {args : List V} {r r' : V} (h : Meets P f args r) (hw : wkR r r') : Meets P f args r' :=
  ⟨h.1, fun w Xa vals M hXa hs hr => (h.2 w Xa vals M hXa hs hr).mono fun e w' ⟨val, he, hb, hres⟩ => ⟨val, he, hb, hres.wk hw⟩⟩

section
variable {P : Program} {base : Nat} {Xa : Nat → Prop} {w0 : W0} {w w' : World} {st : St} {a : Act} {M M' : Mp} {X X' : Nat → Prop} {n n' : Nat}

theorem noX1_R {v : V} {u : Value} (h : R M w X n v u) (hv : noX1 v = true) : R M w X' n v u := by
  cases h with
  | poi => exact .poi _ _
  | bool => exact .bool _ _
  | int => exact .int _ _ _
  | str => exact .str _ _
  | st => simp [noX1] at hv
  | sl _ sz t xs A len c f hlen hc hm ht hnil hs hA h =>
    have : xs = [] := by simpa [noX1] using hv
    subst this
    simp at hlen
    subst hlen
    exact .sl _ _ _ _ _ _ _ f rfl hc hm ht hnil hs (fun h => absurd h (by omega)) (fun j u hu => by simp at hu)
  | own _ _ _ _ _ hid hv' => exact .own _ _ _ _ _ hid hv'
  | ptr _ _ _ _ _ _ _ hid hg hk => exact .ptr _ _ _ _ _ _ _ hid hg hk
  | clo => simp [noX1] at hv
  | part _ _ _ _ _ _ _ _ hid hv' hl => exact .part _ _ _ _ _ _ _ _ hid hv' hl
  | iptr => simp [noX1] at hv
  | omap _ _ _ hid hv' => exact .omap _ _ _ hid hv'
  | itr _ _ _ hid hv' => exact .itr _ _ _ hid hv'
  | mp => simp [noX1] at hv
  | tup => simp [noX1] at hv
  | fn => exact .fn _ _
  | gd => simp [noX1] at hv

theorem ObOk.lower {base' : Nat} {v : Value} {o : Ob} (h : ObOk base' M n w X v o) (hb : base ≤ base') : ObOk base M n w X v o := by
  obtain ⟨vals, hrow, h1, hr⟩ := h.row
  refine ⟨h.pos, h.len, vals, ⟨hrow.1, ?_⟩, h1, hr⟩
  rcases hrow.2 with h2 | ⟨g, cap, cur, e, hg, rest⟩ | hodd
  · exact .inl h2
  · exact .inr (.inl ⟨g, cap, cur, e, by omega, rest⟩)
  · exact .inr (.inr (hodd.congr (fun _ _ => rfl) fun _ _ h => by omega))

theorem opnL_get : ∀ (cs : List V) (n j : Nat), (opnL n cs)[j]? = (cs[j]?).map (opn1 (n + j))
  | [], n, j => by simp [opnL]
  | c :: r, n, 0 => by simp [opnL]
  | c :: r, n, j + 1 => by simp only [opnL, List.getElem?_cons_succ]; rw [opnL_get r (n + 1) j, show n + 1 + j = n + (j + 1) by omega]

theorem opn1_noX {c : V} {k : Nat} (h : noXc c) : noX1 (opn1 k c) = true := by
  cases c <;> first | rfl | exact h
theorem opnC_noX [Glo] {v : V} {k : Nat} {u : Value} (h : R M w X n (opnC k v) u) (hv : ∀ c ∈ v.cells, noXc c) : R M w X' n (opnC k v) u := by
  cases v with
  | st cs =>
    simp only [opnC] at h ⊢
    cases h with
    | st _ _ arr hl h1 hr =>
      refine .st _ _ _ hl h1 fun j u hu => ?_
      have := hr j u hu
      rw [opnL_get] at hu
      obtain ⟨c, hc, rfl⟩ := Option.map_eq_some_iff.1 hu
      exact noX1_R this (opn1_noX (hv c (List.mem_of_getElem? hc)))
  | _ => exact noX1_R h (by simp only [opnC]; exact opn1_noX (hv _ (List.mem_singleton.2 rfl)))
theorem opnT_get : ∀ (vs : List V) (n j : Nat) (u : V), (opnT n vs)[j]? = some u → ∃ v k, vs[j]? = some v ∧ u = opnC k v
  | [], n, j, u, h => by simp [opnT] at h
  | v :: r, n, 0, u, h => by simp only [opnT, List.getElem?_cons_zero, Option.some.injEq] at h; exact ⟨v, n, rfl, h.symm⟩
  | v :: r, n, j + 1, u, h => by
    simp only [opnT, List.getElem?_cons_succ] at h
    obtain ⟨v', k, h1, h2⟩ := opnT_get r _ j u h
    exact ⟨v', k, by simpa using h1, h2⟩
theorem opn_noX [Glo] {r : V} {k : Nat} {u : Value} (h : R M w X n (opn k r) u) (hv : noX r) : R M w X' n (opn k r) u := by
  cases r with
  | tup vs =>
    simp only [opn] at h ⊢
    cases h with
    | tup _ _ arr hl hr =>
      refine .tup _ _ _ hl fun j u hu => ?_
      have := hr j u hu
      obtain ⟨v, k', hv', rfl⟩ := opnT_get _ _ _ _ hu
      exact opnC_noX this (fun c hc => hv c (List.mem_flatMap.2 ⟨v, List.mem_of_getElem? hv', hc⟩))
  | _ => simp only [opn] at h ⊢; exact opnC_noX h (fun c hc => hv c (by simpa only [V.fcells] using hc))

theorem obok_noX [Glo] {v : Value} {o : Ob} (h : ObOk base M n w X v o) (hv : ∀ x ∈ o.xs, ∀ c ∈ x, noX1 c = true) : ObOk base M n w X' v o := by
  obtain ⟨vals, hrow, h1, hr⟩ := h.row
  refine ⟨h.pos, h.len, vals, hrow, h1, fun j u hu => noX1_R (hr j u hu) ?_⟩
  obtain ⟨x, hx, hc⟩ := List.mem_flatten.1 (List.mem_of_getElem? hu)
  exact hv x hx u hc

/-- What comes back from a call is taken in. -/
theorem RelM.result [Glo] (h : RelM base Xa w0 st a w M) (hb : Below w.heap.size w w') {Xc : Nat → Prop} {r : V} {val : Value} (hres : Res w.heap.size Xc w' r val)
    (hXc : (∀ b, Xc b → Xf base Xa w M st.ob b) ∨ noX r) :
    ∃ M', (∀ i, i < st.nx → M' i = M i) ∧ RelM base Xa w0 { st with nx := st.nx + r.fcells.length, ob := obsL st.nx r.fcells ++ st.ob } a w' M' ∧
      R M' w' (Xf base Xa w' M' (obsL st.nx r.fcells ++ st.ob)) (st.nx + r.fcells.length) (opn st.nx r) val := by
  let M' : Mp := fun i => if i < st.nx then M i else (vcells val).getD (i - st.nx) undef
  have hM : ∀ i, i < st.nx → M' i = M i := fun i hi => by simp only [M', if_pos hi]
  obtain ⟨hr, hobs, hdist⟩ := hres M' st.nx (fun j _ => by simp only [M']; rw [if_neg (by omega), Nat.add_sub_cancel_left])
  have happ : ∀ id, lookO (obsL st.nx r.fcells ++ st.ob) id = match lookO (obsL st.nx r.fcells) id with | some o => some o | none => lookO st.ob id := fun id => lookO_app _ _ _ (obsL_isSome _ _)
  have hnew : ∀ id o, lookO (obsL st.nx r.fcells) id = some o → st.nx ≤ id ∧ id < st.nx + r.fcells.length ∧ o.fz = false ∧ ∀ g, (M' id).ownB = some g → w.heap.size ≤ g ∧ g < w'.heap.size := fun id o ho => by
    obtain ⟨j, e, s, xs, rfl, hj, rfl⟩ := obsL_some _ _ _ _ ho
    refine ⟨by omega, by rcases hj with hj | hj <;> (have := (List.getElem?_eq_some_iff.1 hj).1; omega), rfl, fun g hg => ?_⟩
    obtain ⟨vals, hrow, _⟩ := (hobs _ _ ho).row
    exact hrow.lt g hg
  have hcase : ∀ id o, lookO (obsL st.nx r.fcells ++ st.ob) id = some o → lookO (obsL st.nx r.fcells) id = some o ∨ (id < st.nx ∧ lookO st.ob id = some o) := fun id o ho => by
    rw [happ] at ho
    split at ho
    · rename_i h'; simp only [Option.some.injEq] at ho; subst ho; exact .inl h'
    · exact .inr ⟨(h.obs id o ho).1, ho⟩
  have hblk : ∀ i o', lookO st.ob i = some o' → ∀ g, (M i).ownB = some g → g < w.heap.size := fun i o' ho' g hg => by
    obtain ⟨vals, hrow, _⟩ := (h.obs i o' ho').2.row
    exact (hrow.lt g hg).2
  have hX : ∀ b, Xf base Xa w M st.ob b → Xf base Xa w' M' (obsL st.nx r.fcells ++ st.ob) b := fun b hx => by
    have hlt := hx.lt h.xa h.hbase
    refine ⟨hx.1.imp (fun x => x) fun h => ⟨h.1, by have := hb.size; omega⟩, fun id o ho hf => ?_⟩
    rcases hcase id o ho with h' | ⟨h1, h2⟩
    · intro e; have := ((hnew id o h').2.2.2 b e).1; omega
    · rw [hM id h1]; exact hx.2 id o h2 hf
  have hw : ∀ b, Xf base Xa w M st.ob b → w'.heap[b]? = w.heap[b]? := fun b hx => hb.block b (hx.lt h.xa h.hbase)
  have hXr : (∀ b, Xc b → Xf base Xa w M st.ob b) → ∀ b, Xf w.heap.size Xc w' M' (obsL st.nx r.fcells) b → Xf base Xa w' M' (obsL st.nx r.fcells ++ st.ob) b := fun hXc b hx => by
    have hbase := h.hbase
    refine ⟨?_, fun id o ho hf => ?_⟩
    · rcases hx.1 with h1 | h1
      · exact (hX b (hXc b h1)).1
      · exact .inr ⟨by omega, h1.2⟩
    · rcases hcase id o ho with h' | ⟨h1, h2⟩
      · exact hx.2 id o h' hf
      · rcases hx.1 with h3 | h3
        · rw [hM id h1]; exact (hXc b h3).2 id o h2 hf
        · rw [hM id h1]; intro e; have := hblk id o h2 b e; omega
  refine ⟨M', hM, ⟨h.below.trans (hb.mono h.hbase), Nat.le_trans h.hbase hb.size, h.xa, fun m k v u hv => (h.gh m k v u hv).mono (Nat.le_refl _) (fun _ _ => rfl) hX hw, ⟨Nat.le_trans h.pin.1 (by simp), fun i hi => (hM i (Nat.lt_of_lt_of_le hi h.pin.1)).trans (h.pin.2 i hi)⟩, h.defers, h.size, fun t => (h.tmps t).mono (by simp) hM hX hw, fun id o ho => ?_, ?_⟩, ?_⟩
  · rcases hcase id o ho with h' | ⟨h1, h2⟩
    · refine ⟨(hnew id o h').2.1, ?_⟩
      have := (hobs id o h').lower h.hbase
      rcases hXc with hXc | hno
      · exact this.mono (Nat.le_refl _) (fun _ _ => rfl) (hXr hXc) (fun _ _ => rfl) (fun _ _ => rfl)
      · obtain ⟨j, e, s, xs, rfl, hj, rfl⟩ := obsL_some _ _ _ _ h'
        rcases hj with hj | hj
        · exact obok_noX this (hno _ (List.mem_of_getElem? hj))
        · exact obok_noX this (hno _ (List.mem_of_getElem? hj))
    · obtain ⟨_, h3⟩ := h.obs id o h2
      refine ⟨by simp only; omega, ?_⟩
      rw [hM id h1]
      exact h3.mono (by simp) hM hX hw fun g hg => hb.block g (hblk id o h2 g hg)
  · intro id id' o o' g h1 h2 hne hg
    rcases hcase id o h1 with h1' | ⟨h1', h1''⟩ <;> rcases hcase id' o' h2 with h2' | ⟨h2', h2''⟩
    · exact hdist id id' o o' g h1' h2' hne hg
    · rw [hM id' h2']
      intro e
      have := hblk id' o' h2'' g e
      have := ((hnew id o h1').2.2.2 g hg).1
      omega
    · rw [hM id h1'] at hg
      intro e
      have := hblk id o h1'' g hg
      have := ((hnew id' o' h2').2.2.2 g e).1
      omega
    · rw [hM id h1'] at hg
      rw [hM id' h2']
      exact h.dist id id' o o' g h1'' h2'' hne hg
  · rcases hXc with hXc | hno
    · exact hr.mono (Nat.le_refl _) (fun _ _ => rfl) (hXr hXc) (fun _ _ => rfl)
    · exact opn_noX hr hno
end
/-- THE CONTRACT OF A CALL THAT MAY WRITE WHAT ITS CALLER OWNS: begun in any state of these objects (nx of them numbered so far: none of these is renumbered), it returns what 'Post' says. -/
def InlC [Glo] (P : Program) (f : FuncId) (args : List V) (nx : Nat) (ob : List (Nat × Option Ob)) (Post : V → Nat → List (Nat × Option Ob) → Prop) : Prop :=
  callable P f = true ∧ ∀ (base : Nat) (Xa : Nat → Prop) (w0 : W0) (w : World) (M : Mp) (vals : Array Value), RelM base Xa w0 ⟨0, [], nx, ob, nx⟩ ⟨#[], []⟩ w M → vals.size = args.length →
    (∀ (j : Nat) (u : V), args[j]? = some u → R M w (Xf base Xa w M ob) nx u (vals.getD j undef)) →
    Calls P f vals w fun e w' => ∃ val r nx' ob' M', e = .returned val ∧ Post r nx' ob' ∧ RelM base Xa w0 ⟨0, [], nx', ob', nx⟩ ⟨#[], []⟩ w' M' ∧ R M' w' (Xf base Xa w' M' ob') nx' r val
/-- a caller's frame set aside -/
theorem RelM.aside [Glo] {base : Nat} {Xa : Nat → Prop} {w0 : W0} {st : St} {a : Act} {w : World} {M : Mp} (h : RelM base Xa w0 st a w M) :
    RelM base Xa ⟨w0.w, M, fun m n v u => w0.gh m n v u ∨ (m = M ∧ n = st.nx ∧ ∃ t, v = lkT st.tmp t ∧ u = a.tmps.getD t undef)⟩ ⟨0, [], st.nx, st.ob, st.nx⟩ ⟨#[], []⟩ w M :=
  ⟨h.below, h.hbase, h.xa, fun m n v u hv => by
    rcases hv with hv | ⟨rfl, rfl, t, rfl, rfl⟩
    · exact h.gh m n v u hv
    · exact h.tmps t, ⟨Nat.le_refl _, fun _ _ => rfl⟩, rfl, rfl, fun t => by simp only [lkT]; exact .poi _ _, h.obs, h.dist⟩
/-- and taken up again -/
theorem RelM.again [Glo] {base : Nat} {Xa : Nat → Prop} {w0 : W0} {st : St} {a : Act} {w w' : World} {M M' : Mp} {nx' : Nat} {ob' : List (Nat × Option Ob)} (h : RelM base Xa w0 st a w M)
    (h' : RelM base Xa ⟨w0.w, M, fun m n v u => w0.gh m n v u ∨ (m = M ∧ n = st.nx ∧ ∃ t, v = lkT st.tmp t ∧ u = a.tmps.getD t undef)⟩ ⟨0, [], nx', ob', st.nx⟩ ⟨#[], []⟩ w' M') :
    RelM base Xa w0 { st with nx := nx', ob := ob' } a w' M' :=
  ⟨h'.below, h'.hbase, h'.xa, fun m n v u hv => h'.gh m n v u (.inl hv), ⟨Nat.le_trans h.pin.1 h'.pin.1, fun i hi => (h'.pin.2 i (Nat.lt_of_lt_of_le hi h.pin.1)).trans (h.pin.2 i hi)⟩, h.defers, h.size,
    fun t => (h'.gh M st.nx _ _ (.inr ⟨rfl, rfl, t, rfl, rfl⟩)).mono h'.pin.1 (fun i hi => h'.pin.2 i hi) (fun _ h => h) (fun _ _ => rfl), h'.obs, h'.dist⟩
end Go.Ab
