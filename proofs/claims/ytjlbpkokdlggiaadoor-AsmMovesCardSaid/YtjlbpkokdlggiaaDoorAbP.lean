/- Abstract states for walks, part 16: the return; a walk gives a contract. -/
import Derived.Test.YtjlbpkokdlggiaaDoorAbO
namespace Go.Ab
open Go.RowKit

def cls1 (ob : List (Nat × Option Ob)) : V → V
  | .own id => match lookO ob id with
    | some o => bif o.box then .poi else bif o.fz then .sl o.sz false o.xs else .new o.ety o.sz o.xs
    | none => .poi
  | .omap id => match lookO ob id with
    | some o => bif o.box then .poi else bif o.fz then .mp o.sz o.xs else .newm o.ety o.sz o.xs
    | none => .poi
  | v => pur1 ob v
def clsC (ob : List (Nat × Option Ob)) : V → V
  | .st cs => .st (cs.map (cls1 ob))
  | v => cls1 ob v
def clsR (ob : List (Nat × Option Ob)) : V → V
  | .tup vs => .tup (vs.map (clsC ob))
  | v => clsC ob v
def liveIds (ob : List (Nat × Option Ob)) : List V → List Nat
  | [] => []
  | .own id :: r => (match lookO ob id with | some o => bif o.box || o.fz then [] else [id] | none => []) ++ liveIds ob r
  | .omap id :: r => (match lookO ob id with | some o => bif o.box || o.fz then [] else [id] | none => []) ++ liveIds ob r
  | _ :: r => liveIds ob r
def resV [Glo] (P : Program) (st : St) : ResultVar → Option (Prop × V)
  | .tmp t => some (True, lkT st.tmp t)
  | .cell t ty => pv P st (.load ty (.tmp t))
def retL [Glo] (P : Program) (st : St) : List ResultVar → Option (Prop × List V)
  | [] => some (True, [])
  | r :: l => match resV P st r with
    | some (p, v) => match retL P st l with
      | some (q, vs) => some (p ∧ q, v :: vs)
      | none => none
    | none => none
def mkRes : List V → V
  | [v] => v
  | vs => .tup vs
/-- what must hold at the end of the body, for the result r -/
def retQ [Glo] (P : Program) (rs : List ResultVar) (r : V) : Exit → St → Prop
  | .normal, st | .ret, st => match retL P st rs with
    | some (p, vs) => p ∧ (vs.all fun v => (boxC v).isSome) = true ∧ (liveIds st.ob (vs.flatMap V.cells)).Nodup ∧ wkR (clsR st.ob (mkRes vs)) r
    | none => False
  | _, _ => False

theorem cls1_cases (ob : List (Nat × Option Ob)) (c : V) : (∃ id o, lookO ob id = some o ∧ o.box = false ∧ o.fz = false ∧ ((c = .own id ∧ cls1 ob c = .new o.ety o.sz o.xs) ∨ (c = .omap id ∧ cls1 ob c = .newm o.ety o.sz o.xs))) ∨
    (cls1 ob c = pur1 ob c ∧ ∀ id o, (c = .own id ∨ c = .omap id) → lookO ob id = some o → o.box = true ∨ o.fz = true) := by
  cases c with
  | own id =>
    cases h : lookO ob id with
    | none => exact .inr ⟨by simp [cls1, pur1, h], fun id' o e h' => by rcases e with e | e <;> cases e; rw [h] at h'; cases h'⟩
    | some o =>
      cases hb : o.box with
      | true => exact .inr ⟨by simp [cls1, pur1, h, hb], fun id' o' e h' => by rcases e with e | e <;> cases e; rw [h] at h'; cases h'; exact .inl hb⟩
      | false =>
        cases hf : o.fz with
        | true => exact .inr ⟨by simp [cls1, pur1, h, hb, hf], fun id' o' e h' => by rcases e with e | e <;> cases e; rw [h] at h'; cases h'; exact .inr hf⟩
        | false => exact .inl ⟨id, o, h, hb, hf, .inl ⟨rfl, by simp [cls1, h, hb, hf]⟩⟩
  | omap id =>
    cases h : lookO ob id with
    | none => exact .inr ⟨by simp [cls1, pur1, h], fun id' o e h' => by rcases e with e | e <;> cases e; rw [h] at h'; cases h'⟩
    | some o =>
      cases hb : o.box with
      | true => exact .inr ⟨by simp [cls1, pur1, h, hb], fun id' o' e h' => by rcases e with e | e <;> cases e; rw [h] at h'; cases h'; exact .inl hb⟩
      | false =>
        cases hf : o.fz with
        | true => exact .inr ⟨by simp [cls1, pur1, h, hb, hf], fun id' o' e h' => by rcases e with e | e <;> cases e; rw [h] at h'; cases h'; exact .inr hf⟩
        | false => exact .inl ⟨id, o, h, hb, hf, .inr ⟨rfl, by simp [cls1, h, hb, hf]⟩⟩
  | _ => exact .inr ⟨rfl, fun id o e => by rcases e with e | e <;> cases e⟩

theorem pur1_one (ob : List (Nat × Option Ob)) (c : V) : (pur1 ob c).cells = [pur1 ob c] ∧ (∀ k, opn1 k (pur1 ob c) = pur1 ob c) ∧ (∀ e s xs, pur1 ob c ≠ .new e s xs ∧ pur1 ob c ≠ .newm e s xs) ∧ (∀ k, opnC k (pur1 ob c) = pur1 ob c) ∧ (pur1 ob c).fcells = [pur1 ob c] ∧ ∀ k, opn k (pur1 ob c) = pur1 ob c := by
  cases c with
  | own id =>
    simp only [pur1]
    split
    · rename_i o _
      cases o.box <;> exact ⟨rfl, fun _ => rfl, (fun _ _ _ => ⟨(fun h => by cases h), (fun h => by cases h)⟩), fun _ => rfl, rfl, fun _ => rfl⟩
    · exact ⟨rfl, fun _ => rfl, (fun _ _ _ => ⟨(fun h => by cases h), (fun h => by cases h)⟩), fun _ => rfl, rfl, fun _ => rfl⟩
  | omap id =>
    simp only [pur1]
    split
    · rename_i o _
      cases o.box <;> exact ⟨rfl, fun _ => rfl, (fun _ _ _ => ⟨(fun h => by cases h), (fun h => by cases h)⟩), fun _ => rfl, rfl, fun _ => rfl⟩
    · exact ⟨rfl, fun _ => rfl, (fun _ _ _ => ⟨(fun h => by cases h), (fun h => by cases h)⟩), fun _ => rfl, rfl, fun _ => rfl⟩
  | _ => exact ⟨rfl, fun _ => rfl, (fun _ _ _ => ⟨(fun h => by cases h), (fun h => by cases h)⟩), fun _ => rfl, rfl, fun _ => rfl⟩
theorem cls1_one [Glo] (ob : List (Nat × Option Ob)) (c : V) : (cls1 ob c).cells = [cls1 ob c] ∧ (∀ k, opnC k (cls1 ob c) = opn1 k (cls1 ob c)) ∧ (cls1 ob c).fcells = [cls1 ob c] ∧ ∀ k, opn k (cls1 ob c) = opn1 k (cls1 ob c) := by
  rcases cls1_cases ob c with ⟨id, o, _, _, _, ⟨_, h⟩ | ⟨_, h⟩⟩ | ⟨h, _⟩
  · rw [h]; exact ⟨rfl, fun _ => rfl, rfl, fun _ => rfl⟩
  · rw [h]; exact ⟨rfl, fun _ => rfl, rfl, fun _ => rfl⟩
  · rw [h]
    obtain ⟨h1, h2, h3, h4, h5, h6⟩ := pur1_one ob c
    exact ⟨h1, fun k => (h4 k).trans (h2 k).symm, h5, fun k => (h6 k).trans (h2 k).symm⟩
theorem clsC_aux [Glo] (ob : List (Nat × Option Ob)) (v : V) (h1 : clsC ob v = cls1 ob v) (h2 : v.cells = [v]) : (clsC ob v).cells = v.cells.map (cls1 ob) := by
  rw [h1, h2]; exact (cls1_one ob v).1
theorem clsR_aux [Glo] (ob : List (Nat × Option Ob)) (v : V) (h1 : clsR ob v = cls1 ob v) (h2 : v.fcells = [v]) : (clsR ob v).fcells = v.fcells.map (cls1 ob) := by
  rw [h1, h2]; exact (cls1_one ob v).2.2.1
theorem clsC_cells [Glo] (ob : List (Nat × Option Ob)) (v : V) : (clsC ob v).cells = v.cells.map (cls1 ob) := by
  cases v with
  | st cs => rfl
  | _ => exact clsC_aux ob _ rfl rfl
theorem clsR_fcells [Glo] (ob : List (Nat × Option Ob)) (r : V) : (clsR ob r).fcells = r.fcells.map (cls1 ob) := by
  cases r with
  | tup vs =>
    simp only [clsR, V.fcells]
    induction vs with
    | nil => rfl
    | cons v vs ih => simp only [List.map_cons, List.flatMap_cons, List.map_append, ih, clsC_cells]
  | st cs => rfl
  | _ => exact clsR_aux ob _ rfl rfl

section
variable {P : Program} {base : Nat} {Xa : Nat → Prop} {w0 : W0} {w w' : World} {st : St} {a : Act} {M M' : Mp} {X X' : Nat → Prop} {n n' : Nat}

theorem live_inj (ob : List (Nat × Option Ob)) : ∀ (cs : List V), (liveIds ob cs).Nodup → ∀ (j j' id : Nat) (o : Ob), (cs[j]? = some (V.own id) ∨ cs[j]? = some (V.omap id)) → (cs[j']? = some (V.own id) ∨ cs[j']? = some (V.omap id)) → lookO ob id = some o → o.box = false → o.fz = false → j = j'
  | [], _, j, j', id, o, h, _, _, _, _ => by simp at h
  | c :: r, hn, j, j', id, o, h, h', ho, hb, hf => by
    have hmem : ∀ (l : List V) (j : Nat), (l[j]? = some (.own id) ∨ l[j]? = some (.omap id)) → id ∈ liveIds ob l := by
      intro l
      induction l with
      | nil => intro j h; simp at h
      | cons x l ih =>
        intro j h
        cases j with
        | zero =>
          simp only [List.getElem?_cons_zero, Option.some.injEq] at h
          rcases h with h | h <;> (subst h; simp [liveIds, ho, hb, hf])
        | succ j =>
          have := ih j (by simpa using h)
          cases x <;> simp only [liveIds] <;> first | exact this | exact List.mem_append_right _ this
    have hr : (liveIds ob r).Nodup := by
      cases c <;> simp only [liveIds] at hn <;> first | exact hn | exact (List.nodup_append.1 hn).2.1
    cases j with
    | zero =>
      cases j' with
      | zero => rfl
      | succ j' =>
        simp only [List.getElem?_cons_zero, Option.some.injEq] at h
        have := hmem r j' (by simpa using h')
        rcases h with h | h <;> (subst h; simp only [liveIds, ho, hb, hf, Bool.or_self, cond_false] at hn; simp at hn; exact absurd this hn.1)
    | succ j =>
      cases j' with
      | zero =>
        simp only [List.getElem?_cons_zero, Option.some.injEq] at h'
        have := hmem r j (by simpa using h)
        rcases h' with h | h <;> (subst h; simp only [liveIds, ho, hb, hf, Bool.or_self, cond_false] at hn; simp at hn; exact absurd this hn.1)
      | succ j' => rw [live_inj ob r hr j j' id o (by simpa using h) (by simpa using h') ho hb hf]

/-- what the model reads of one result -/
def resRun (tmps : Array Value) : ResultVar → Sem Value
  | .tmp t => pure (tmps.getD t undef)
  | .cell b t => do loadVar t (← asAddr (tmps.getD b undef))

theorem retL_run [Glo] (hR : RelM base Xa w0 st a w M) : ∀ (l : List ResultVar) (p : Prop) (vs : List V), retL P st l = some (p, vs) → p →
    ∃ us : List Value, (l.mapM (resRun a.tmps)).run P w = .ok us w ∧ us.length = vs.length ∧
      ∀ (j : Nat) (v : V), vs[j]? = some v → R M w (Xf base Xa w M st.ob) st.nx v (us.getD j undef)
  | [], p, vs, h, _ => by
    simp only [retL, Option.some.injEq, Prod.mk.injEq] at h
    obtain ⟨rfl, rfl⟩ := h
    exact ⟨[], by simp, rfl, fun j v h => by simp at h⟩
  | r :: l, p, vs, h, hp => by
    simp only [retL] at h
    split at h
    · rename_i q v hv
      split at h
      · rename_i q' vs' hvs
        simp only [Option.some.injEq, Prod.mk.injEq] at h
        obtain ⟨rfl, rfl⟩ := h
        obtain ⟨us, h1, h2, h3⟩ := retL_run hR l q' vs' hvs hp.2
        have := lawful
        have key : ∃ u, (resRun a.tmps r).run P w = .ok u w ∧ R M w (Xf base Xa w M st.ob) st.nx v u := by
          cases r with
          | tmp t =>
            simp only [resV, Option.some.injEq, Prod.mk.injEq] at hv
            obtain ⟨rfl, rfl⟩ := hv
            exact ⟨_, by simp only [resRun, Sem.run_pure], hR.tmps t⟩
          | cell b t =>
            simp only [resV] at hv
            obtain ⟨u, hu, hr⟩ := pv_load hv hp.1 hR.rx
            refine ⟨u, ?_, hr⟩
            simp only [Instr.loadAt, Sem.run_bind, Act.eval] at hu
            cases hb : a.tmps.getD b undef with
            | pointer ad =>
              rw [hb] at hu
              cases ad with
              | none => simp [Instr.sureAddr, stuck] at hu
              | some ad =>
                simp only [Instr.sureAddr, Sem.run_pure, Result.andThen_ok] at hu
                simp only [resRun, Sem.run_bind, hb, asAddr, Sem.run_pure, Result.andThen_ok]
                exact hu
            | _ => rw [hb] at hu; simp [Instr.sureAddr, stuck] at hu
        obtain ⟨u, hu, hru⟩ := key
        refine ⟨u :: us, ?_, by simp [h2], fun j v' hj => ?_⟩
        · rw [List.mapM_cons]
          simp only [Sem.run_bind, hu, h1, Result.andThen_ok, Sem.run_pure]
        · cases j with
          | zero => simp only [List.getElem?_cons_zero, Option.some.injEq] at hj; subst hj; exact hru
          | succ j => exact h3 j v' (by simpa using hj)
      · simp at h
    · simp at h

theorem results_run [Glo] {fn : Func} (hR : RelM base Xa w0 st a w M) {p : Prop} {vs : List V} (h : retL P st fn.results.toList = some (p, vs)) (hp : p) :
    ∃ us : List Value, us.length = vs.length ∧ (results fn a.tmps).run P w = .ok (if h : us.length = 1 then us[0] else .tuple us.toArray) w ∧ ∀ (j : Nat) (v : V), vs[j]? = some v → R M w (Xf base Xa w M st.ob) st.nx v (us.getD j undef) := by
  obtain ⟨us, h1, h2, h3⟩ := retL_run (P := P) hR _ p vs h hp
  refine ⟨us, h2, ?_, h3⟩
  have := lawful
  have e : (results fn a.tmps) = (do let vs ← fn.results.mapM (resRun a.tmps); pure (if h : vs.size = 1 then vs[0] else .tuple vs)) := by
    unfold results
    congr 1
  have e2 : (fn.results.mapM (resRun a.tmps)).run P w = .ok us.toArray w := by
    rw [← Array.toArray_toList (xs := fn.results), List.mapM_toArray, map_eq_pure_bind, Sem.run_bind, h1]
    simp
  rw [e, Sem.run_bind, e2]
  simp only [Result.andThen_ok, Sem.run_pure]
  congr 1

theorem Cs.flat [Glo] : ∀ (vs : List V) (us : List Value), vs.length = us.length → (∀ v ∈ vs, (boxC v).isSome = true) → (∀ (j : Nat) (v : V), vs[j]? = some v → R M w X n v (us.getD j undef)) → Cs M w X n (vs.flatMap V.cells) (us.flatMap (·.cells.toList))
  | [], [], _, _, _ => Cs.nil
  | v :: vs, u :: us, hl, hb, hr => by
    simp only [List.flatMap_cons]
    refine Cs.app ?_ (Cs.flat vs us (by simpa using hl) (fun v hv => hb v (List.mem_cons_of_mem _ hv)) (fun j v hv => hr (j + 1) v (by simpa using hv)))
    obtain ⟨cs, hcs⟩ := Option.isSome_iff_exists.1 (hb v (List.mem_cons_self ..))
    have : cs = v.cells := by cases v <;> simp [boxC] at hcs <;> simp [V.cells, hcs]
    subst this
    exact boxC_R hcs (hr 0 v rfl)
  | [], _ :: _, hl, _, _ => by simp at hl
  | _ :: _, [], hl, _, _ => by simp at hl
end
end Go.Ab
