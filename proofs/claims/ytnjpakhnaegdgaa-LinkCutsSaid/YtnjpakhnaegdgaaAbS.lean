/- Abstract states for walks, part 19: regions that draw their order. -/
import Derived.Test.YtnjpakhnaegdgaaAbR
namespace Go.Ab
open Go.RowKit

/-- what an operation ahead of the region's tail has come to -/
structure HI where
  dst : Option Tmp
  eff : Bool
  v : V
  ob : List (Nat × Option Ob)
  nx : Nat
  deriving Inhabited

def eT (L : Nat → Bool) : Nat → List HI → List (Nat × V)
  | _, [] => []
  | i, x :: r => (match x.dst with | some d => [(d, bif L i then x.v else .poi)] | none => []) ++ eT L (i + 1) r
def eO (L : Nat → Bool) : Nat → List HI → List (Nat × Option Ob) × Nat → List (Nat × Option Ob) × Nat
  | _, [], b => b
  | i, x :: r, b => eO L (i + 1) r (bif x.eff && L i then (x.ob, x.nx) else b)
/-- the state when the operations of L have run -/
def stS (st0 : St) (L : Nat → Bool) (l : List HI) : St := ⟨st0.n, eT L 0 l ++ st0.tmp, (eO L 0 l (st0.ob, st0.nx)).2, (eO L 0 l (st0.ob, st0.nx)).1⟩

def isPoi : V → Bool
  | .poi => true
  | _ => false
def isEff : Op → Bool
  | .alloc _ => true
  | .box _ _ => true
  | .call c => match c.callee with | .value _ => true | _ => false
  | _ => false
/-- behind a call that returned r -/
def aftE (nf : Nat) (args : List V) (K : V → List (Nat × Option Ob) → Nat → Prop) (s : St) (r : V) : Prop :=
  match nf with
  | _ + 1 => noX r ∧ K (opn s.nx r) (obsL s.nx r.fcells ++ s.ob) (s.nx + r.fcells.length)
  | 0 => K (opn s.nx r) (obsL s.nx r.fcells ++ fzs (args.flatMap fun v : V => ownIds v.cells) s.ob) (s.nx + r.fcells.length)
def effV (P : Program) (o : Oper) (s : St) (K : V → List (Nat × Option Ob) → Nat → Prop) : Prop :=
  match o.op with
  | .alloc t => match zeroE P t with
    | some cs => K (.ptr s.nx cs.length 0 0) ((s.nx, some ⟨t, cs.length, true, false, [cs]⟩) :: s.ob) (s.nx + 1)
    | none => False
  | .box t x => match boxC (ev s x) with
    | some cs => K (.ptr s.nx cs.length 0 0) ((s.nx, some ⟨t, cs.length, true, false, [cs]⟩) :: s.ob) (s.nx + 1)
    | none => False
  | .call c => match c.callee with
    | .value f => match ev s f with
      | .fn f => (c.args.toList.all fun x => !isPoi (ev s x)) = true ∧ okGs (c.args.toList.map (ev s)) ∧ ∃ nf r, Meets P f (((c.args.toList.map (ev s)).map unG).map (pur s.ob)) r ∧ aftE nf ((c.args.toList.map (ev s)).map unG) K s r
      | _ => False
    | _ => False
  | _ => False
def hstep (P : Program) (ops : List Oper) (o : Oper) (s : St) (K : Bool → V → List (Nat × Option Ob) → Nat → Prop) : Prop :=
  match o.guard with
  | none => match pv P s o.op with
    | some (p, v) => p ∧ K false v [] 0
    | none => effV P o s (K true)
  | some (j, want) => match (ops[j]?).bind (·.dst) with
    | some d => match lkT s.tmp d with
      | .bool b => match pv P (fixG s o.op.operands.toList) o.op with
        | some (p, v) => (b = want → p ∧ okAll s o.op.operands.toList) ∧ K false (.gd (b == want) v) [] 0
        | none => isEff o.op = true ∧ (b = want → effV P o s (K true)) ∧ (b = !want → K true .poi s.ob s.nx)
      | _ => False
    | none => False
def ph (o : Oper) : HI := ⟨o.dst, false, .poi, [], 0⟩
def addH (F : List HI → Prop) (done : List HI) (dst : Option Tmp) (eff : Bool) (v : V) (ob : List (Nat × Option Ob)) (nx : Nat) : Prop := F (done ++ [⟨dst, eff, v, ob, nx⟩])
/-- the operations ahead of the tail, each seen from what it surely comes behind -/
def drawV (P : Program) (ops : List Oper) (prs : List (List Nat)) (st0 : St) (K : St → Prop) : List Oper → List HI → Prop
  | [], done => K (stS st0 (fun _ => true) done)
  | o :: r, done => hstep P ops o (stS st0 (fun j => (prs.getD done.length []).contains j) (done ++ (o :: r).map ph)) (addH (drawV P ops prs st0 K r) done o.dst)

theorem effV_ex {P : Program} {o : Oper} {s : St} {K : V → List (Nat × Option Ob) → Nat → Prop} (h : effV P o s K) : ∃ v ob nx, K v ob nx ∧ effV P o s (fun v' ob' nx' => v' = v ∧ ob' = ob ∧ nx' = nx) := by
  unfold effV at h ⊢
  split at h
  · split at h
    · exact ⟨_, _, _, h, rfl, rfl, rfl⟩
    · exact h.elim
  · split at h
    · exact ⟨_, _, _, h, rfl, rfl, rfl⟩
    · exact h.elim
  · split at h
    · split at h
      · obtain ⟨hp, hg, nf, r, hm, h⟩ := h
        cases nf with
        | succ k => exact ⟨_, _, _, h.2, hp, hg, k + 1, r, hm, And.intro h.1 ⟨rfl, rfl, rfl⟩⟩
        | zero => exact ⟨_, _, _, h, hp, hg, 0, r, hm, And.intro rfl ⟨rfl, rfl⟩⟩
      · exact h.elim
    · exact h.elim
  · exact h.elim
theorem effV_mono {P : Program} {o : Oper} {s : St} {K K' : V → List (Nat × Option Ob) → Nat → Prop} (h : effV P o s K) (hK : ∀ v ob nx, K v ob nx → K' v ob nx) : effV P o s K' := by
  unfold effV at h ⊢
  split at h
  · split at h
    · exact hK _ _ _ h
    · exact h
  · split at h
    · exact hK _ _ _ h
    · exact h
  · split at h
    · split at h
      · obtain ⟨hp, hg, nf, r, hm, h⟩ := h
        cases nf with
        | succ k => exact ⟨hp, hg, k + 1, r, hm, And.intro h.1 (hK _ _ _ h.2)⟩
        | zero => exact ⟨hp, hg, 0, r, hm, hK _ _ _ h⟩
      · exact h
    · exact h
  · exact h
/-- what operation o has come to is x -/
def SF (P : Program) (ops : List Oper) (o : Oper) (s : St) (x : HI) : Prop := x.dst = o.dst ∧ hstep P ops o s fun eff v ob nx => eff = x.eff ∧ v = x.v ∧ (eff = true → ob = x.ob ∧ nx = x.nx)
theorem hstep_ex {P : Program} {ops : List Oper} {o : Oper} {s : St} {K : Bool → V → List (Nat × Option Ob) → Nat → Prop} (h : hstep P ops o s K) : ∃ eff v ob nx, K eff v ob nx ∧ SF P ops o s ⟨o.dst, eff, v, ob, nx⟩ := by
  unfold SF
  unfold hstep at h ⊢
  split at h
  · split at h
    · exact ⟨_, _, _, _, h.2, rfl, h.1, rfl, rfl, fun h => by cases h⟩
    · obtain ⟨v, ob, nx, hk, he⟩ := effV_ex h
      exact ⟨true, v, ob, nx, hk, rfl, effV_mono he fun v' ob' nx' ⟨h1, h2, h3⟩ => ⟨rfl, h1, fun _ => ⟨h2, h3⟩⟩⟩
  · rename_i j want hg
    split at h
    · split at h
      · rename_i b hb
        split at h
        · exact ⟨_, _, _, _, h.2, rfl, h.1, rfl, rfl, fun h => by cases h⟩
        · by_cases hbw : b = want
          · obtain ⟨v, ob, nx, hk, he⟩ := effV_ex (h.2.1 hbw)
            refine ⟨true, v, ob, nx, hk, rfl, h.1, fun _ => effV_mono he fun v' ob' nx' ⟨h1, h2, h3⟩ => ⟨rfl, h1, fun _ => ⟨h2, h3⟩⟩, fun h' => ?_⟩
            subst hbw; cases b <;> simp at h'
          · have hb' : b = !want := by cases b <;> cases want <;> simp_all
            exact ⟨true, _, _, _, h.2.2 hb', rfl, h.1, fun h' => absurd h' hbw, fun _ => ⟨rfl, rfl, fun _ => ⟨rfl, rfl⟩⟩⟩
      · exact h.elim
    · exact h.elim

theorem eT_congr : ∀ (l l' : List HI) (L : Nat → Bool) (i : Nat), l.length = l'.length → (∀ j x x', l[j]? = some x → l'[j]? = some x' → x.dst = x'.dst ∧ (L (i + j) = true → x.v = x'.v)) → eT L i l = eT L i l'
  | [], [], _, _, _, _ => rfl
  | x :: l, x' :: l', L, i, hl, h => by
    have h0 := h 0 x x' rfl rfl
    simp only [eT]
    rw [eT_congr l l' L (i + 1) (by simpa using hl) (fun j y y' hy hy' => by
      have := h (j + 1) y y' (by simpa using hy) (by simpa using hy')
      rw [show i + 1 + j = i + (j + 1) by omega]; exact this), h0.1]
    cases hL : L i with
    | false => rfl
    | true => rw [h0.2 (by simpa using hL)]
  | [], _ :: _, _, _, hl, _ => by simp at hl
  | _ :: _, [], _, _, hl, _ => by simp at hl
theorem eO_congr : ∀ (l l' : List HI) (L L' : Nat → Bool) (i : Nat) (b : List (Nat × Option Ob) × Nat), l.length = l'.length →
    (∀ j x x', l[j]? = some x → l'[j]? = some x' → (x.eff && L (i + j)) = (x'.eff && L' (i + j)) ∧ ((x.eff && L (i + j)) = true → x.ob = x'.ob ∧ x.nx = x'.nx)) → eO L i l b = eO L' i l' b
  | [], [], _, _, _, _, _, _ => rfl
  | x :: l, x' :: l', L, L', i, b, hl, h => by
    have h0 := h 0 x x' rfl rfl
    simp only [Nat.add_zero] at h0
    simp only [eO]
    have e : (bif x.eff && L i then (x.ob, x.nx) else b) = (bif x'.eff && L' i then (x'.ob, x'.nx) else b) := by
      rw [← h0.1]
      cases hc : (x.eff && L i) with
      | false => rfl
      | true => obtain ⟨h1, h2⟩ := h0.2 hc; simp [h1, h2]
    rw [e]
    exact eO_congr l l' L L' (i + 1) _ (by simpa using hl) (fun j y y' hy hy' => by
      have := h (j + 1) y y' (by simpa using hy) (by simpa using hy')
      rw [show i + 1 + j = i + (j + 1) by omega]; exact this)
  | [], _ :: _, _, _, _, _, hl, _ => by simp at hl
  | _ :: _, [], _, _, _, _, hl, _ => by simp at hl

theorem drawV_ex {P : Program} {ops : List Oper} {prs : List (List Nat)} {st0 : St} {K : St → Prop} (hpr : ∀ i j, j ∈ prs.getD i [] → j < i) : ∀ (todo : List Oper) (done : List HI), drawV P ops prs st0 K todo done →
    ∃ outs : List HI, outs.length = todo.length ∧ K (stS st0 (fun _ => true) (done ++ outs)) ∧
      ∀ k o x, todo[k]? = some o → outs[k]? = some x → SF P ops o (stS st0 (fun j => (prs.getD (done.length + k) []).contains j) (done ++ outs)) x
  | [], done, h => ⟨[], rfl, by simpa [drawV] using h, fun k o x hk => by simp at hk⟩
  | o :: r, done, h => by
    simp only [drawV] at h
    obtain ⟨eff, v, ob, nx, hk, hsf⟩ := hstep_ex h
    simp only [addH] at hk
    obtain ⟨outs, hl, hK, hf⟩ := drawV_ex hpr r _ hk
    have hdsts : ∀ (k : Nat) (o' : Oper) (x : HI), (o :: r)[k]? = some o' → (⟨o.dst, eff, v, ob, nx⟩ :: outs)[k]? = some x → x.dst = o'.dst := fun k o' x ho hx => by
      cases k with
      | zero => simp at ho hx; subst ho; subst hx; rfl
      | succ k => exact (hf k o' x (by simpa using ho) (by simpa using hx)).1
    refine ⟨⟨o.dst, eff, v, ob, nx⟩ :: outs, by simp [hl], by simpa using hK, fun k o' x ho hx => ?_⟩
    cases k with
    | zero =>
      simp only [List.getElem?_cons_zero, Option.some.injEq] at ho hx
      subst ho; subst hx
      have key : ∀ j, done.length ≤ j → ((prs.getD done.length []).contains j) = false := fun j hj => by
        cases hc : (prs.getD done.length []).contains j with
        | false => rfl
        | true =>
          have := hpr done.length j (by simpa using hc)
          omega
      have hcase : ∀ (j : Nat) (x x' : HI), (done ++ (o :: r).map ph)[j]? = some x → (done ++ ⟨o.dst, eff, v, ob, nx⟩ :: outs)[j]? = some x' → (j < done.length ∧ x = x') ∨ (done.length ≤ j ∧ x.dst = x'.dst) := fun j y y' hy hy' => by
        by_cases hj : j < done.length
        · rw [List.getElem?_append_left hj] at hy hy'
          rw [hy] at hy'
          exact .inl ⟨hj, by simpa using hy'⟩
        · rw [List.getElem?_append_right (by omega)] at hy hy'
          rw [List.getElem?_map] at hy
          obtain ⟨o1, h1, rfl⟩ := Option.map_eq_some_iff.1 hy
          exact .inr ⟨by omega, (hdsts _ o1 y' h1 hy').symm⟩
      have e : stS st0 (fun j => (prs.getD (done.length + 0) []).contains j) (done ++ ⟨o.dst, eff, v, ob, nx⟩ :: outs) = stS st0 (fun j => (prs.getD done.length []).contains j) (done ++ (o :: r).map ph) := by
        simp only [stS, Nat.add_zero]
        rw [eT_congr (done ++ ⟨o.dst, eff, v, ob, nx⟩ :: outs) (done ++ (o :: r).map ph) _ 0 (by simp [hl]) (fun j y y' hy hy' => by
          rcases hcase j y' y hy' hy with ⟨_, h2⟩ | ⟨h1, h2⟩
          · subst h2; exact ⟨rfl, fun _ => rfl⟩
          · refine ⟨h2.symm, fun hL => ?_⟩
            rw [Nat.zero_add, key j h1] at hL; cases hL), eO_congr (done ++ ⟨o.dst, eff, v, ob, nx⟩ :: outs) (done ++ (o :: r).map ph) _ (fun j => (prs.getD done.length []).contains j) 0 _ (by simp [hl]) (fun j y y' hy hy' => by
          rcases hcase j y' y hy' hy with ⟨_, h2⟩ | ⟨h1, h2⟩
          · subst h2; exact ⟨rfl, fun _ => ⟨rfl, rfl⟩⟩
          · simp only [Nat.zero_add, key j h1, Bool.and_false]
            exact ⟨trivial, fun h => by cases h⟩)]
      rw [e]
      exact hsf
    | succ k =>
      have := hf k o' x (by simpa using ho) (by simpa using hx)
      simpa [Nat.add_assoc, Nat.add_comm 1 k] using this
end Go.Ab
