/- Abstract states for walks, part 19: regions that draw their order. -/
import Derived.Test.YtjlbpkokdlggiaaDoorAbR
namespace Go.Ab
open Go.RowKit

/-- what an operation ahead of the region's tail has come to -/
structure HI where
  dst : Option Tmp
  eff : Bool
  v : V
  ob : List (Nat × Option Ob)
  nx : Nat
  deriving Inhabited

def eT (L : Nat → Bool) : Nat → List HI → List (Nat × V)
  | _, [] => []
  | i, x :: r => (match x.dst with | some d => [(d, bif L i then x.v else .poi)] | none => []) ++ eT L (i + 1) r
def eO (L : Nat → Bool) : Nat → List HI → List (Nat × Option Ob) × Nat → List (Nat × Option Ob) × Nat
  | _, [], b => b
  | i, x :: r, b => eO L (i + 1) r (bif x.eff && L i then (x.ob, x.nx) else b)
/-- the state when the operations of L have run -/
def stS (st0 : St) (L : Nat → Bool) (l : List HI) : St := ⟨st0.n, eT L 0 l ++ st0.tmp, (eO L 0 l (st0.ob, st0.nx)).2, (eO L 0 l (st0.ob, st0.nx)).1, st0.pn⟩

def isPoi : V → Bool
  | .poi => true
  | _ => false
def isEff : Op → Bool
  | .alloc _ => true
  | .box _ _ => true
  | .store _ _ _ => true
  | .buildSlice _ _ _ => true
  | .call c => match c.callee with | .value _ => true | .builtin .append => true | _ => false
  | _ => false
/-- behind a call that returned r -/
def aftE (nf : Nat) (args : List V) (K : V → List (Nat × Option Ob) → Nat → Prop) (s : St) (r : V) : Prop :=
  match nf with
  | _ + 1 => noX r ∧ K (opn s.nx r) (obsL s.nx r.fcells ++ s.ob) (s.nx + r.fcells.length)
  | 0 => K (opn s.nx r) (obsL s.nx r.fcells ++ fzs (args.flatMap fun v : V => ownIds v.cells) s.ob) (s.nx + r.fcells.length)
def appE (P : Program) (t : TypeId) (s x : V) (st : St) (K : V → List (Nat × Option Ob) → Nat → Prop) : Prop :=
  match slE P t with
  | some (e, sz, by_) => match srcV st sz x with
    | some (p, ys) => p ∧ (match s with
      | .own id => match lookO st.ob id with
        | some o => o.box = false ∧ o.fz = false ∧ o.ety = e ∧ o.sz = sz ∧ notOwn x id ∧ (o.xs.length + ys.length) * by_ ≤ 140737488355328 ∧ o.xs.length + ys.length ≤ maxLen ∧
          K (.own st.nx) ((st.nx, some ⟨e, sz, false, false, o.xs ++ ys⟩) :: (id, none) :: st.ob) (st.nx + 1)
        | none => False
      | .sl sz' tt xs => (sz' = 0 ∨ (sz' = sz ∧ tt = true ∧ ys ≠ [])) ∧ (xs.length + ys.length) * by_ ≤ 140737488355328 ∧ xs.length + ys.length ≤ maxLen ∧
          K (.own st.nx) ((st.nx, some ⟨e, sz, false, false, xs ++ ys⟩) :: st.ob) (st.nx + 1)
      | .part id _ lo k => match lookO st.ob id with
        | some o => o.box = false ∧ o.fz = false ∧ o.ety = e ∧ o.sz = sz ∧ lo = 0 ∧ k + ys.length ≤ o.xs.length ∧
          K (.own st.nx) ((st.nx, some ⟨e, sz, false, false, o.xs.take k ++ ys⟩) :: (id, none) :: st.ob) (st.nx + 1)
        | none => False
      | _ => False)
    | none => False
  | none => False
/-- the operations that lay memory or write it: their value, the objects behind them -/
def effV [Glo] (P : Program) (o : Oper) (s : St) (K : V → List (Nat × Option Ob) → Nat → Prop) : Prop :=
  match o.op with
  | .alloc t => match zeroE P t with
    | some cs => K (.ptr s.nx cs.length 0 0) ((s.nx, some ⟨t, cs.length, true, false, [cs]⟩) :: s.ob) (s.nx + 1)
    | none => False
  | .box t x => match boxC (ev s x) with
    | some cs => K (.ptr s.nx cs.length 0 0) ((s.nx, some ⟨t, cs.length, true, false, [cs]⟩) :: s.ob) (s.nx + 1)
    | none => False
  | .store t x y => match tyE P t, ev s x, boxC (ev s y) with
    | some (m, _), .ptr id sz i off, some ds => match lookO s.ob id with
      | some b => b.fz = false ∧ sz = b.sz ∧ i < b.xs.length ∧ off + m ≤ sz ∧ ds.length = m ∧
          (if b.box = true then K .poi ((id, some { b with xs := b.xs.set i (spl (b.xs.getD i []) off ds) }) :: s.ob) s.nx
           else id ∉ ownIds ds ∧ K .poi ((id, some { b with xs := b.xs.set i (spl (b.xs.getD i []) off (ds.map (pur1 s.ob))) }) :: fzs (ownIds ds) s.ob) s.nx)
      | none => False
    | _, _, _ => False
  | .buildSlice t len parts => match slE P t with
    | some (e, sz, _) => match zeroE P e with
      | some zs => match fillV s (fun i => some (i * sz, sz)) (List.replicate len zs).flatten parts.toList with
        | some cs => len * sz ≤ 16777216 ∧ K (.own s.nx) ((s.nx, some ⟨e, sz, false, false, chunk sz len (cs.map (pur1 s.ob))⟩) :: fzs (ownIds cs) s.ob) (s.nx + 1)
        | none => False
      | none => False
    | none => False
  | .call c => match c.callee with
    | .value f => match ev s f with
      | .fn f => (c.args.toList.all fun x => !isPoi (ev s x)) = true ∧ okGs (c.args.toList.map (ev s)) ∧ ∃ nf r, Meets P f (((c.args.toList.map (ev s)).map unG).map (pur s.ob)) r ∧ aftE nf ((c.args.toList.map (ev s)).map unG) K s r
      | _ => False
    | .builtin .append => match c.args.toList, c.argTypes.toList with
      | [x, y], [t, t'] => t = t' ∧ appE P t (ev s x) (ev s y) s K
      | _, _ => False
    | _ => False
  | _ => False
/-- a call under a guard, as if it had been made: the result lays no memory -/
def uniE [Glo] (P : Program) (o : Oper) (b want : Bool) (s : St) (r : V) (K : V → List (Nat × Option Ob) → Nat → Prop) : Prop :=
  match o.op with
  | .call c => match c.callee with
    | .value f => match ev s f with
      | .fn f => (c.args.toList.all fun x => !isPoi (ev s x)) = true ∧ (b = want → okGs (c.args.toList.map (ev s)) ∧ Meets P f (((c.args.toList.map (ev s)).map unG).map (pur s.ob)) r) ∧ obsL s.nx r.fcells = [] ∧
          K (.gd (b == want) (opn s.nx r)) (fzs (((c.args.toList.map (ev s)).map unG).flatMap fun v : V => ownIds v.cells) s.ob) (s.nx + r.fcells.length)
      | _ => False
    | _ => False
  | _ => False
def gcallE [Glo] (P : Program) (o : Oper) (b want : Bool) (s : St) (K : V → List (Nat × Option Ob) → Nat → Prop) : Prop :=
  ((b = want → effV P o s K) ∧ (b = !want → K .poi s.ob s.nx)) ∨ ∃ r, uniE P o b want s r K
/-- an operation that lays no memory and writes none, literals of structs among them -/
def hpv [Glo] (P : Program) (s : St) (op : Op) : Option (Prop × V) :=
  match op with
  | .build t parts => match zeroE P t with
    | some zs => match fillV s (plE P t) zs parts.toList with
      | some cs => some (allE P t = true, .st cs)
      | none => none
    | none => none
  | .slice t x lo hi mx => match ev s x with
    | .own id => match lookO s.ob id, slE P t, boundV s lo, boundV s hi, boundV s mx with
      | some b, some (_, sz, _), some l, some h, some none => some (b.box = false ∧ sz = b.sz ∧ b.xs ≠ [] ∧ 0 ≤ l.getD 0 ∧ l.getD 0 ≤ h.getD b.xs.length ∧ h.getD b.xs.length ≤ b.xs.length,
          .part id sz (l.getD 0).toNat ((h.getD b.xs.length).toNat - (l.getD 0).toNat))
      | _, _, _, _, _ => none
    | _ => pv P s (.slice t x lo hi mx)
  | op => pv P s op
def hstep [Glo] (P : Program) (ops : List (Option Tmp)) (o : Oper) (s : St) (K : Bool → V → List (Nat × Option Ob) → Nat → Prop) : Prop :=
  match o.guard with
  | none => match hpv P s o.op with
    | some (p, v) => p ∧ K false v [] 0
    | none => effV P o s (K true)
  | some (j, want) => match (ops[j]?).join with
    | some d => match gdV (lkT s.tmp d) want with
      | some (b, want) => match hpv P (fixG s (fixOps o.op)) o.op with
        | some (p, v) => (b = want → p ∧ okAll s (fixOps o.op)) ∧ K false (.gd (b == want) v) [] 0
        | none => isEff o.op = true ∧ gcallE P o b want s (K true)
      | none => False
    | none => False
def ph (o : Oper) : HI := ⟨o.dst, false, .poi, [], 0⟩
def addH (F : List HI → Prop) (done : List HI) (dst : Option Tmp) (eff : Bool) (v : V) (ob : List (Nat × Option Ob)) (nx : Nat) : Prop := F (done ++ [⟨dst, eff, v, ob, nx⟩])
/-- the operations of a segment, each seen from what it surely comes behind -/
def drawV [Glo] (P : Program) (ops : List (Option Tmp)) (prs : List (List Nat)) (st0 : St) (K : List HI → Prop) : List Oper → List HI → Prop
  | [], done => K done
  | o :: r, done => hstep P ops o (stS st0 (fun j => (prs.getD done.length []).contains j) (done ++ (o :: r).map ph)) (addH (drawV P ops prs st0 K r) done o.dst)
/-- operation i once more, behind operation j that writes -/
def rechk [Glo] (P : Program) (ops : List (Option Tmp)) (prs : List (List Nat)) (st0 : St) (seg : List Oper) (done : List HI) : List (Nat × Nat) → Prop
  | [] => True
  | (i, j) :: r => (match seg[i]?, done[i]?, done[j]? with
      | some o, some x, some y => hstep P ops o ⟨st0.n, eT (fun k => (prs.getD i []).contains k) 0 done ++ st0.tmp, y.nx, y.ob, st0.pn⟩ (fun eff v _ _ => eff = false ∧ v = x.v)
      | _, _, _ => False) ∧ rechk P ops prs st0 seg done r

theorem effV_ex [Glo] {P : Program} {o : Oper} {s : St} {K : V → List (Nat × Option Ob) → Nat → Prop} (h : effV P o s K) : ∃ v ob nx, K v ob nx ∧ effV P o s (fun v' ob' nx' => v' = v ∧ ob' = ob ∧ nx' = nx) := by
  unfold effV at h ⊢
  split at h
  · split at h
    · exact ⟨_, _, _, h, rfl, rfl, rfl⟩
    · exact h.elim
  · split at h
    · exact ⟨_, _, _, h, rfl, rfl, rfl⟩
    · exact h.elim
  · split at h
    · split at h
      · rename_i b hb
        obtain ⟨h1, h2, h3, h4, h5, h6⟩ := h
        cases hbx : b.box with
        | true => rw [if_pos hbx] at h6; exact ⟨_, _, _, h6, h1, h2, h3, h4, h5, (by simp [hbx])⟩
        | false => rw [if_neg (by simp [hbx])] at h6; exact ⟨_, _, _, h6.2, h1, h2, h3, h4, h5, (by simp [hbx, h6.1])⟩
      · exact h.elim
    · exact h.elim
  · split at h
    · split at h
      · split at h
        · exact ⟨_, _, _, h.2, h.1, rfl, rfl, rfl⟩
        · exact h.elim
      · exact h.elim
    · exact h.elim
  · split at h
    · split at h
      · obtain ⟨hp, hg, nf, r, hm, h⟩ := h
        cases nf with
        | succ k => exact ⟨_, _, _, h.2, hp, hg, k + 1, r, hm, And.intro h.1 ⟨rfl, rfl, rfl⟩⟩
        | zero => exact ⟨_, _, _, h, hp, hg, 0, r, hm, And.intro rfl ⟨rfl, rfl⟩⟩
      · exact h.elim
    · split at h
      · obtain ⟨ht, h⟩ := h
        unfold appE at h ⊢
        split at h
        · split at h
          · obtain ⟨hp, h⟩ := h
            split at h
            · split at h
              · obtain ⟨h1, h2, h3, h4, h5, h6, h7, h8⟩ := h
                exact ⟨_, _, _, h8, ht, hp, h1, h2, h3, h4, h5, h6, h7, rfl, rfl, rfl⟩
              · exact h.elim
            · obtain ⟨h1, h2, h3, h4⟩ := h
              exact ⟨_, _, _, h4, ht, hp, h1, h2, h3, rfl, rfl, rfl⟩
            · split at h
              · obtain ⟨h1, h2, h3, h4, h5, h6, h7⟩ := h
                exact ⟨_, _, _, h7, ht, hp, h1, h2, h3, h4, h5, h6, rfl, rfl, rfl⟩
              · exact h.elim
            · exact h.elim
          · exact h.elim
        · exact h.elim
      · exact h.elim
    · exact h.elim
  · exact h.elim
theorem effV_mono [Glo] {P : Program} {o : Oper} {s : St} {K K' : V → List (Nat × Option Ob) → Nat → Prop} (h : effV P o s K) (hK : ∀ v ob nx, K v ob nx → K' v ob nx) : effV P o s K' := by
  unfold effV at h ⊢
  split at h
  · split at h
    · exact hK _ _ _ h
    · exact h
  · split at h
    · exact hK _ _ _ h
    · exact h
  · split at h
    · split at h
      · rename_i b hb
        obtain ⟨h1, h2, h3, h4, h5, h6⟩ := h
        refine ⟨h1, h2, h3, h4, h5, ?_⟩
        by_cases hbx : b.box = true
        · rw [if_pos hbx] at h6 ⊢; exact hK _ _ _ h6
        · rw [if_neg hbx] at h6 ⊢; exact ⟨h6.1, hK _ _ _ h6.2⟩
      · exact h
    · exact h
  · split at h
    · split at h
      · split at h
        · exact ⟨h.1, hK _ _ _ h.2⟩
        · exact h
      · exact h
    · exact h
  · split at h
    · split at h
      · obtain ⟨hp, hg, nf, r, hm, h⟩ := h
        cases nf with
        | succ k => exact ⟨hp, hg, k + 1, r, hm, And.intro h.1 (hK _ _ _ h.2)⟩
        | zero => exact ⟨hp, hg, 0, r, hm, hK _ _ _ h⟩
      · exact h
    · split at h
      · obtain ⟨ht, h⟩ := h
        refine ⟨ht, ?_⟩
        unfold appE at h ⊢
        split at h
        · split at h
          · obtain ⟨hp, h⟩ := h
            refine ⟨hp, ?_⟩
            split at h
            · split at h
              · obtain ⟨h1, h2, h3, h4, h5, h6, h7, h8⟩ := h
                exact ⟨h1, h2, h3, h4, h5, h6, h7, hK _ _ _ h8⟩
              · exact h
            · obtain ⟨h1, h2, h3, h4⟩ := h
              exact ⟨h1, h2, h3, hK _ _ _ h4⟩
            · split at h
              · obtain ⟨h1, h2, h3, h4, h5, h6, h7⟩ := h
                exact ⟨h1, h2, h3, h4, h5, h6, hK _ _ _ h7⟩
              · exact h
            · exact h
          · exact h
        · exact h
      · exact h
    · exact h
  · exact h
theorem gcallE_ex [Glo] {P : Program} {o : Oper} {b want : Bool} {s : St} {K : V → List (Nat × Option Ob) → Nat → Prop} (h : gcallE P o b want s K) : ∃ v ob nx, K v ob nx ∧ gcallE P o b want s (fun v' ob' nx' => v' = v ∧ ob' = ob ∧ nx' = nx) := by
  rcases h with h | ⟨r, h⟩
  · by_cases hbw : b = want
    · obtain ⟨v, ob, nx, hk, he⟩ := effV_ex (h.1 hbw)
      refine ⟨v, ob, nx, hk, .inl ⟨fun _ => he, fun h' => ?_⟩⟩
      subst hbw; cases b <;> simp at h'
    · have hb' : b = !want := by cases b <;> cases want <;> simp_all
      exact ⟨_, _, _, h.2 hb', .inl ⟨fun h' => absurd h' hbw, fun _ => ⟨rfl, rfl, rfl⟩⟩⟩
  · unfold uniE at h
    split at h
    · rename_i c ho
      split at h
      · rename_i f hf
        split at h
        · rename_i fid hfid
          obtain ⟨h1, h2, h3, h4⟩ := h
          refine ⟨_, _, _, h4, .inr ⟨r, ?_⟩⟩
          simp only [uniE, ho, hf, hfid]
          exact ⟨h1, h2, h3, trivial, trivial, trivial⟩
        · exact h.elim
      · exact h.elim
    · exact h.elim
theorem gcallE_mono [Glo] {P : Program} {o : Oper} {b want : Bool} {s : St} {K K' : V → List (Nat × Option Ob) → Nat → Prop} (h : gcallE P o b want s K) (hK : ∀ v ob nx, K v ob nx → K' v ob nx) : gcallE P o b want s K' := by
  rcases h with h | ⟨r, h⟩
  · exact .inl ⟨fun e => effV_mono (h.1 e) hK, fun e => hK _ _ _ (h.2 e)⟩
  · refine .inr ⟨r, ?_⟩
    unfold uniE at h ⊢
    split at h
    · split at h
      · split at h
        · exact ⟨h.1, h.2.1, h.2.2.1, hK _ _ _ h.2.2.2⟩
        · exact h
      · exact h
    · exact h
/-- what operation o has come to is x -/
def SF [Glo] (P : Program) (ops : List (Option Tmp)) (o : Oper) (s : St) (x : HI) : Prop := x.dst = o.dst ∧ hstep P ops o s fun eff v ob nx => eff = x.eff ∧ v = x.v ∧ (eff = true → ob = x.ob ∧ nx = x.nx)
theorem hstep_ex [Glo] {P : Program} {ops : List (Option Tmp)} {o : Oper} {s : St} {K : Bool → V → List (Nat × Option Ob) → Nat → Prop} (h : hstep P ops o s K) : ∃ eff v ob nx, K eff v ob nx ∧ SF P ops o s ⟨o.dst, eff, v, ob, nx⟩ := by
  unfold SF
  unfold hstep at h ⊢
  split at h
  · split at h
    · exact ⟨_, _, _, _, h.2, rfl, h.1, rfl, rfl, fun h => by cases h⟩
    · obtain ⟨v, ob, nx, hk, he⟩ := effV_ex h
      exact ⟨true, v, ob, nx, hk, rfl, effV_mono he fun v' ob' nx' ⟨h1, h2, h3⟩ => ⟨rfl, h1, fun _ => ⟨h2, h3⟩⟩⟩
  · rename_i j want hg
    split at h
    · split at h
      · rename_i b want hb
        split at h
        · exact ⟨_, _, _, _, h.2, rfl, h.1, rfl, rfl, fun h => by cases h⟩
        · obtain ⟨v, ob, nx, hk, he⟩ := gcallE_ex h.2
          exact ⟨true, v, ob, nx, hk, rfl, h.1, gcallE_mono he fun v' ob' nx' ⟨h1, h2, h3⟩ => ⟨rfl, h1, fun _ => ⟨h2, h3⟩⟩⟩
      · exact h.elim
    · exact h.elim

theorem eT_congr : ∀ (l l' : List HI) (L : Nat → Bool) (i : Nat), l.length = l'.length → (∀ j x x', l[j]? = some x → l'[j]? = some x' → x.dst = x'.dst ∧ (L (i + j) = true → x.v = x'.v)) → eT L i l = eT L i l'
  | [], [], _, _, _, _ => rfl
  | x :: l, x' :: l', L, i, hl, h => by
    have h0 := h 0 x x' rfl rfl
    simp only [eT]
    rw [eT_congr l l' L (i + 1) (by simpa using hl) (fun j y y' hy hy' => by
      have := h (j + 1) y y' (by simpa using hy) (by simpa using hy')
      rw [show i + 1 + j = i + (j + 1) by omega]; exact this), h0.1]
    cases hL : L i with
    | false => rfl
    | true => rw [h0.2 (by simpa using hL)]
  | [], _ :: _, _, _, hl, _ => by simp at hl
  | _ :: _, [], _, _, hl, _ => by simp at hl
theorem eO_congr : ∀ (l l' : List HI) (L L' : Nat → Bool) (i : Nat) (b : List (Nat × Option Ob) × Nat), l.length = l'.length →
    (∀ j x x', l[j]? = some x → l'[j]? = some x' → (x.eff && L (i + j)) = (x'.eff && L' (i + j)) ∧ ((x.eff && L (i + j)) = true → x.ob = x'.ob ∧ x.nx = x'.nx)) → eO L i l b = eO L' i l' b
  | [], [], _, _, _, _, _, _ => rfl
  | x :: l, x' :: l', L, L', i, b, hl, h => by
    have h0 := h 0 x x' rfl rfl
    simp only [Nat.add_zero] at h0
    simp only [eO]
    have e : (bif x.eff && L i then (x.ob, x.nx) else b) = (bif x'.eff && L' i then (x'.ob, x'.nx) else b) := by
      rw [← h0.1]
      cases hc : (x.eff && L i) with
      | false => rfl
      | true => obtain ⟨h1, h2⟩ := h0.2 hc; simp [h1, h2]
    rw [e]
    exact eO_congr l l' L L' (i + 1) _ (by simpa using hl) (fun j y y' hy hy' => by
      have := h (j + 1) y y' (by simpa using hy) (by simpa using hy')
      rw [show i + 1 + j = i + (j + 1) by omega]; exact this)
  | [], _ :: _, _, _, _, _, hl, _ => by simp at hl
  | _ :: _, [], _, _, _, _, hl, _ => by simp at hl

theorem drawV_ex [Glo] {P : Program} {ops : List (Option Tmp)} {prs : List (List Nat)} {st0 : St} {K : List HI → Prop} (hpr : ∀ i j, j ∈ prs.getD i [] → j < i) : ∀ (todo : List Oper) (done : List HI), drawV P ops prs st0 K todo done →
    ∃ outs : List HI, outs.length = todo.length ∧ K (done ++ outs) ∧
      ∀ k o x, todo[k]? = some o → outs[k]? = some x → SF P ops o (stS st0 (fun j => (prs.getD (done.length + k) []).contains j) (done ++ outs)) x
  | [], done, h => ⟨[], rfl, by simpa [drawV] using h, fun k o x hk => by simp at hk⟩
  | o :: r, done, h => by
    simp only [drawV] at h
    obtain ⟨eff, v, ob, nx, hk, hsf⟩ := hstep_ex h
    simp only [addH] at hk
    obtain ⟨outs, hl, hK, hf⟩ := drawV_ex hpr r _ hk
    have hdsts : ∀ (k : Nat) (o' : Oper) (x : HI), (o :: r)[k]? = some o' → (⟨o.dst, eff, v, ob, nx⟩ :: outs)[k]? = some x → x.dst = o'.dst := fun k o' x ho hx => by
      cases k with
      | zero => simp at ho hx; subst ho; subst hx; rfl
      | succ k => exact (hf k o' x (by simpa using ho) (by simpa using hx)).1
    refine ⟨⟨o.dst, eff, v, ob, nx⟩ :: outs, by simp [hl], by simpa using hK, fun k o' x ho hx => ?_⟩
    cases k with
    | zero =>
      simp only [List.getElem?_cons_zero, Option.some.injEq] at ho hx
      subst ho; subst hx
      have key : ∀ j, done.length ≤ j → ((prs.getD done.length []).contains j) = false := fun j hj => by
        cases hc : (prs.getD done.length []).contains j with
        | false => rfl
        | true =>
          have := hpr done.length j (by simpa using hc)
          omega
      have hcase : ∀ (j : Nat) (x x' : HI), (done ++ (o :: r).map ph)[j]? = some x → (done ++ ⟨o.dst, eff, v, ob, nx⟩ :: outs)[j]? = some x' → (j < done.length ∧ x = x') ∨ (done.length ≤ j ∧ x.dst = x'.dst) := fun j y y' hy hy' => by
        by_cases hj : j < done.length
        · rw [List.getElem?_append_left hj] at hy hy'
          rw [hy] at hy'
          exact .inl ⟨hj, by simpa using hy'⟩
        · rw [List.getElem?_append_right (by omega)] at hy hy'
          rw [List.getElem?_map] at hy
          obtain ⟨o1, h1, rfl⟩ := Option.map_eq_some_iff.1 hy
          exact .inr ⟨by omega, (hdsts _ o1 y' h1 hy').symm⟩
      have e : stS st0 (fun j => (prs.getD (done.length + 0) []).contains j) (done ++ ⟨o.dst, eff, v, ob, nx⟩ :: outs) = stS st0 (fun j => (prs.getD done.length []).contains j) (done ++ (o :: r).map ph) := by
        simp only [stS, Nat.add_zero]
        rw [eT_congr (done ++ ⟨o.dst, eff, v, ob, nx⟩ :: outs) (done ++ (o :: r).map ph) _ 0 (by simp [hl]) (fun j y y' hy hy' => by
          rcases hcase j y' y hy' hy with ⟨_, h2⟩ | ⟨h1, h2⟩
          · subst h2; exact ⟨rfl, fun _ => rfl⟩
          · refine ⟨h2.symm, fun hL => ?_⟩
            rw [Nat.zero_add, key j h1] at hL; cases hL), eO_congr (done ++ ⟨o.dst, eff, v, ob, nx⟩ :: outs) (done ++ (o :: r).map ph) _ (fun j => (prs.getD done.length []).contains j) 0 _ (by simp [hl]) (fun j y y' hy hy' => by
          rcases hcase j y' y hy' hy with ⟨_, h2⟩ | ⟨h1, h2⟩
          · subst h2; exact ⟨rfl, fun _ => ⟨rfl, rfl⟩⟩
          · simp only [Nat.zero_add, key j h1, Bool.and_false]
            exact ⟨trivial, fun h => by cases h⟩)]
      rw [e]
      exact hsf
    | succ k =>
      have := hf k o' x (by simpa using ho) (by simpa using hx)
      simpa [Nat.add_assoc, Nat.add_comm 1 k] using this
end Go.Ab
