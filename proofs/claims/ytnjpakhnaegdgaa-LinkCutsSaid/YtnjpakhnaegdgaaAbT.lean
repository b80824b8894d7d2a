/- Abstract states for walks, part 20: regions that draw their order, in whatever order. -/
import Derived.Test.YtnjpakhnaegdgaaAbS
namespace Go.Ab
open Go.RowKit

/-- what the edges say, looked at once -/
def drawOk (P : Program) (n : Nat) (ops : List Oper) (h : Nat) (prs : List (List Nat)) : Bool :=
  ops.all (okO P n) && !(Region.departs ops.toArray) && decide (h ≤ ops.length ∧ prs.length ≤ ops.length) &&
  (List.range ops.length).all (fun i => match ops[i]? with
    | none => true
    | some o => o.after.toList.all (fun e => decide (e.on < i)) &&
      (prs.getD i []).all (fun j => decide (j < i) && o.after.toList.any (fun e => decide (e.on = j) || (prs.getD e.on []).contains j)) &&
      (decide (i < h) || (List.range i).all (fun j => (prs.getD i []).contains j)) &&
      (!(decide (i < h) && isEff o.op) || (List.range i).all (fun j => match ops[j]? with | some o' => !(isEff o'.op) || (prs.getD i []).contains j | none => true))) &&
  decide ((ops.take h).filterMap (·.dst)).Nodup

structure DrawOk (P : Program) (n : Nat) (ops : List Oper) (h : Nat) (prs : List (List Nat)) : Prop where
  ok : ∀ o ∈ ops, okO P n o = true
  dep : Region.departs ops.toArray = false
  len : h ≤ ops.length ∧ prs.length ≤ ops.length
  acyc : ∀ (i : Nat) (o : Oper), ops[i]? = some o → ∀ e ∈ o.after, e.on < i
  prlt : ∀ (i : Nat) (o : Oper), ops[i]? = some o → ∀ j ∈ prs.getD i [], j < i ∧ ∃ e ∈ o.after, e.on = j ∨ j ∈ prs.getD e.on []
  tail : ∀ (i : Nat) (o : Oper), ops[i]? = some o → h ≤ i → ∀ j, j < i → j ∈ prs.getD i []
  chain : ∀ (i j : Nat) (o o' : Oper), ops[i]? = some o → ops[j]? = some o' → i < h → isEff o.op = true → isEff o'.op = true → j < i → j ∈ prs.getD i []
  nodup : ((ops.take h).filterMap (·.dst)).Nodup

theorem drawOk_of {P : Program} {n : Nat} {ops : List Oper} {h : Nat} {prs : List (List Nat)} (hc : drawOk P n ops h prs = true) : DrawOk P n ops h prs := by
  simp only [drawOk, Bool.and_eq_true, Bool.not_eq_true', decide_eq_true_eq, List.all_eq_true, List.mem_range] at hc
  obtain ⟨⟨⟨⟨h1, h2⟩, h3⟩, h4⟩, h5⟩ := hc
  have key : ∀ (i : Nat) (o : Oper), ops[i]? = some o → (∀ e ∈ o.after.toList, e.on < i) ∧ (∀ j ∈ prs.getD i [], j < i ∧ ∃ e ∈ o.after.toList, e.on = j ∨ (prs.getD e.on []).contains j = true) ∧
      (i < h ∨ ∀ j, j < i → (prs.getD i []).contains j = true) ∧ ((i < h ∧ isEff o.op = true) → ∀ j, j < i → ∀ o', ops[j]? = some o' → isEff o'.op = true → (prs.getD i []).contains j = true) := fun i o ho => by
    have hi := (List.getElem?_eq_some_iff.1 ho).1
    have := h4 i hi
    rw [ho] at this
    simp only [Bool.and_eq_true, Bool.or_eq_true, Bool.not_eq_true', decide_eq_true_eq, List.all_eq_true, List.any_eq_true, List.mem_range] at this
    obtain ⟨⟨⟨q1, q2⟩, q3⟩, q4⟩ := this
    refine ⟨q1, q2, q3, fun hh j hj o' ho' he => ?_⟩
    rcases q4 with q4 | q4
    · simp [hh.1, hh.2] at q4
    · have := q4 j hj
      rw [ho'] at this
      simpa [he] using this
  refine ⟨h1, h2, h3, fun i o ho e he => (key i o ho).1 e (by simpa using he), fun i o ho j hj => ?_, fun i o ho hi j hj => ?_, fun i j o o' ho ho' hi he he' hj => ?_, h5⟩
  · obtain ⟨q1, e, q2, q3⟩ := (key i o ho).2.1 j hj
    exact ⟨q1, e, by simpa using q2, by simpa using q3⟩
  · rcases (key i o ho).2.2.1 with q | q
    · omega
    · simpa using q j hj
  · simpa using (key i o ho).2.2.2 ⟨hi, he⟩ j hj o' ho' he'

def ObLe (A B : List (Nat × Option Ob)) : Prop := ∀ id o, lookO A id = some o → ∃ fz, lookO B id = some { o with fz := fz }
theorem ObLe.refl (A : List (Nat × Option Ob)) : ObLe A A := fun _ o h => ⟨o.fz, h⟩
theorem ObLe.trans {A B C : List (Nat × Option Ob)} (h : ObLe A B) (k : ObLe B C) : ObLe A C := fun id o ho => by
  obtain ⟨fz, h1⟩ := h id o ho
  obtain ⟨fz', h2⟩ := k id _ h1
  exact ⟨fz', h2⟩

theorem eT_sub (A B : Nat → Bool) (T : List (Nat × V)) (t : Nat) : ∀ (l : List HI) (i : Nat), (∀ j, j < l.length → A (i + j) = true → B (i + j) = true) → lkT (eT A i l ++ T) t = .poi ∨ lkT (eT A i l ++ T) t = lkT (eT B i l ++ T) t
  | [], i, _ => .inr rfl
  | x :: l, i, h => by
    have ih := eT_sub A B T t l (i + 1) (fun j hj hA => by
      have := h (j + 1) (by simpa using hj) (by rw [show i + (j + 1) = i + 1 + j by omega]; exact hA)
      rwa [show i + (j + 1) = i + 1 + j by omega] at this)
    simp only [eT]
    cases x.dst with
    | none => simpa using ih
    | some d =>
      simp only [List.cons_append, List.nil_append, lkT]
      split
      · cases hA : A i with
        | false => exact .inl rfl
        | true =>
          have hB := h 0 (by simp) (by simpa using hA)
          simp only [Nat.add_zero] at hB
          rw [hB]; exact .inr rfl
      · exact ih

theorem eT_same (A B : Nat → Bool) : ∀ (l : List HI) (i : Nat), (∀ j, j < l.length → A (i + j) = B (i + j)) → eT A i l = eT B i l
  | [], i, _ => rfl
  | x :: l, i, h => by
    have h0 := h 0 (by simp)
    simp only [Nat.add_zero] at h0
    simp only [eT, h0]
    rw [eT_same A B l (i + 1) (fun j hj => by
      have := h (j + 1) (by simpa using hj)
      rwa [show i + (j + 1) = i + 1 + j by omega] at this)]

theorem eT_put (L : Nat → Bool) (T : List (Nat × V)) (t : Nat) {k : Nat} {x : HI} : ∀ (l : List HI) (i : Nat), i ≤ k → l[k - i]? = some x → (l.filterMap (·.dst)).Nodup →
    lkT (eT (fun j => decide (j = k) || L j) i l ++ T) t = .poi ∨ lkT (eT (fun j => decide (j = k) || L j) i l ++ T) t = (match x.dst with | some d => lkT ((d, x.v) :: (eT L i l ++ T)) t | none => lkT (eT L i l ++ T) t)
  | [], i, _, h, _ => by simp at h
  | y :: l, i, hik, h, hn => by
    by_cases he : i = k
    · subst he
      simp only [Nat.sub_self, List.getElem?_cons_zero, Option.some.injEq] at h
      subst h
      have hrest : eT (fun j => decide (j = i) || L j) (i + 1) l = eT L (i + 1) l := eT_same _ _ l (i + 1) (fun j _ => by simp; omega)
      simp only [eT, hrest]
      cases y.dst with
      | none => exact .inr rfl
      | some d =>
        refine .inr ?_
        simp only [List.cons_append, List.nil_append, lkT, decide_true, Bool.true_or, cond_true]
        split <;> simp_all
    · have hlt : i + 1 ≤ k := by omega
      have hx : l[k - (i + 1)]? = some x := by
        rw [show k - i = (k - (i + 1)) + 1 by omega] at h
        simpa using h
      have hn' : (l.filterMap (·.dst)).Nodup := by
        cases hd : y.dst with
        | none => simpa [List.filterMap_cons, hd] using hn
        | some d => rw [List.filterMap_cons, hd] at hn; exact (List.nodup_cons.1 hn).2
      have ih := eT_put L T t l (i + 1) hlt hx hn'
      have hdec : (decide (i = k) || L i) = L i := by simp [he]
      simp only [eT, hdec]
      cases hd : y.dst with
      | none => simpa using ih
      | some d =>
        simp only [List.cons_append, List.nil_append]
        cases hxd : x.dst with
        | none =>
          rw [hxd] at ih
          simp only [lkT] at ih ⊢
          split
          · exact .inr rfl
          · exact ih
        | some d' =>
          have hne : d' ≠ d := fun e => by
            rw [List.filterMap_cons, hd] at hn
            exact (List.nodup_cons.1 hn).1 (List.mem_filterMap.2 ⟨x, List.mem_of_getElem? hx, by rw [hxd, e]⟩)
          rw [hxd] at ih
          simp only [lkT] at ih ⊢
          by_cases h1 : t = d
          · subst h1
            rw [if_pos rfl, if_neg (fun e => hne e.symm), if_pos rfl]
            exact .inr rfl
          · rw [if_neg h1]
            by_cases h2 : t = d'
            · rw [if_pos h2] at ih ⊢; exact ih
            · rw [if_neg h2] at ih; rw [if_neg h2, if_neg h1]; exact ih

theorem eO_mem (L : Nat → Bool) : ∀ (l : List HI) (i : Nat) (b : List (Nat × Option Ob) × Nat), eO L i l b = b ∨ ∃ j x, l[j]? = some x ∧ x.eff = true ∧ L (i + j) = true ∧ (eO L i l b).1 = x.ob ∧ (eO L i l b).2 = x.nx
  | [], i, b => .inl rfl
  | x :: l, i, b => by
    simp only [eO]
    rcases eO_mem L l (i + 1) (bif x.eff && L i then (x.ob, x.nx) else b) with h | ⟨j, y, h1, h2, h3, h4, h5⟩
    · cases hc : (x.eff && L i) with
      | false => rw [hc] at h; exact .inl (by simpa using h)
      | true =>
        rw [hc] at h
        simp only [cond_true] at h ⊢
        simp only [Bool.and_eq_true] at hc
        exact .inr ⟨0, x, rfl, hc.1, by simpa using hc.2, by rw [h], by rw [h]⟩
    · exact .inr ⟨j + 1, y, by simpa using h1, h2, by rw [show i + (j + 1) = i + 1 + j by omega]; exact h3, h4, h5⟩

theorem eO_last (L : Nat → Bool) {k : Nat} {x : HI} (hx : x.eff = true) (hk : L k = true) : ∀ (l : List HI) (i : Nat) (b : List (Nat × Option Ob) × Nat), i ≤ k → l[k - i]? = some x → (∀ j y, l[j]? = some y → k < i + j → y.eff = true → L (i + j) = false) → eO L i l b = (x.ob, x.nx)
  | [], i, b, _, h, _ => by simp at h
  | y :: l, i, b, hik, h, hno => by
    by_cases he : i = k
    · subst he
      simp only [Nat.sub_self, List.getElem?_cons_zero, Option.some.injEq] at h
      subst h
      simp only [eO, hx, hk, Bool.and_self, cond_true]
      rcases eO_mem L l (i + 1) (y.ob, y.nx) with h | ⟨j, z, h1, h2, h3, _⟩
      · exact h
      · have := hno (j + 1) z (by simpa using h1) (by omega) h2
        rw [show i + (j + 1) = i + 1 + j by omega] at this
        rw [this] at h3; cases h3
    · simp only [eO]
      refine eO_last L hx hk l (i + 1) _ (by omega) (by
        rw [show k - i = (k - (i + 1)) + 1 by omega] at h
        simpa using h) (fun j z hz hlt he' => ?_)
      have := hno (j + 1) z (by simpa using hz) (by omega) he'
      rwa [show i + (j + 1) = i + 1 + j by omega] at this

section
variable {P : Program} {base : Nat} {Xa : Nat → Prop} {w0 w w' : World} {st : St} {a : Act} {M M' : Mp} {X X' : Nat → Prop} {n n' : Nat}

theorem RelM.weakT (h : RelM base Xa w0 st a w M) {T : List (Nat × V)} (hT : ∀ t, lkT T t = .poi ∨ lkT T t = lkT st.tmp t) : RelM base Xa w0 { st with tmp := T } a w M :=
  ⟨h.below, h.hbase, h.xa, h.defers, h.size, fun t => by
    rcases hT t with e | e
    · simp only [e]; exact .poi _ _
    · simp only [e]; exact h.tmps t, h.obs, h.dist⟩

theorem ev_eq {s S : St} (hT : ∀ t, lkT s.tmp t = .poi ∨ lkT s.tmp t = lkT S.tmp t) (x : Operand) (h : isPoi (ev s x) = false) : ev s x = ev S x := by
  cases x with
  | tmp t =>
    rcases hT t with e | e
    · simp only [ev, e, isPoi] at h; cases h
    · exact e
  | _ => rfl

theorem ObLe_call {S : St} (hR : RelM base Xa w0 S a w M) (ids : List Nat) (cs : List V) : ObLe S.ob (obsL S.nx cs ++ fzs ids S.ob) := fun id o ho => by
  have hid := (hR.obs id o ho).1
  rw [lookO_app _ _ _ (obsL_isSome _ _)]
  have hn : lookO (obsL S.nx cs) id = none := by
    cases hl : lookO (obsL S.nx cs) id with
    | none => rfl
    | some o' =>
      obtain ⟨j, _, _, _, e, _⟩ := obsL_some _ _ _ _ hl
      omega
  rw [hn, lookO_fzs]
  simp only
  split
  · exact ⟨true, by rw [ho]; rfl⟩
  · exact ⟨o.fz, ho⟩

/-- An operation that lays memory, run from the state that knows more. -/
theorem eff_sound {o : Oper} {s S : St} {x : HI} {QC : Exit → Act → World → Prop} (h : effV P o s fun v ob nx => v = x.v ∧ ob = x.ob ∧ nx = x.nx) (hT : ∀ t, lkT s.tmp t = .poi ∨ lkT s.tmp t = lkT S.tmp t) (hob : s.ob = S.ob) (hnx : s.nx = S.nx)
    (hok : okO P S.n o = true) (hR : RelM base Xa w0 S a w M) : o.wp P a w (Nx base Xa w0 S.n (fun st' => st' = { S with nx := x.nx, ob := x.ob }.put o.dst x.v)) QC ∧ ObLe S.ob x.ob := by
  have hd : ∀ d, o.dst = some d → d < S.n := fun d hd => by
    unfold okO at hok
    simp only [hd, Bool.and_eq_true, decide_eq_true_eq] at hok
    exact hok.1
  have hcons : ∀ b : Ob, ObLe S.ob ((S.nx, some b) :: S.ob) := fun b id o' ho' => by
    have := (hR.obs id o' ho').1
    exact ⟨o'.fz, by simp only [lookO]; rw [if_neg (by omega)]; exact ho'⟩
  unfold effV at h
  split at h
  · rename_i t ho
    split at h
    · rename_i cs hz
      obtain ⟨h1, h2, h3⟩ := h
      rw [hob, hnx] at h2; rw [hnx] at h3 h1
      rw [← h1, ← h2, ← h3]
      exact ⟨alloc_sound ho hz hd hR rfl, hcons _⟩
    · exact h.elim
  · rename_i t y ho
    split at h
    · rename_i cs hz
      obtain ⟨h1, h2, h3⟩ := h
      rw [hob, hnx] at h2; rw [hnx] at h3 h1
      rw [← h1, ← h2, ← h3]
      have hy : ev s y = ev S y := ev_eq hT y (by cases hv : ev s y <;> first | rfl | (rw [hv] at hz; simp [boxC] at hz))
      rw [hy] at hz
      exact ⟨box_sound ho hz hd hR rfl, hcons _⟩
    · exact h.elim
  · rename_i c ho
    obtain ⟨callee, args, tys⟩ := c
    split at h
    · rename_i f hcal
      simp only at hcal
      subst hcal
      split at h
      · rename_i fid hf
        obtain ⟨hp, hg, nf, r, hm, h⟩ := h
        have hf' : ev S f = .fn fid := by rw [← ev_eq hT f (by rw [hf]; rfl)]; exact hf
        have hargs : args.toList.map (ev s) = args.toList.map (ev S) := List.map_congr_left fun y hy => ev_eq hT y (by
          have := List.all_eq_true.1 hp y hy
          simpa using this)
        simp only [hargs, hob] at hm h hg
        cases nf with
        | succ k =>
          obtain ⟨hno, h1, h2, h3⟩ := h
          rw [hob, hnx] at h2; rw [hnx] at h1 h3
          rw [← h1, ← h2, ← h3]
          refine ⟨call_sound ho ?_ hd hR, ?_⟩
          · unfold callV; rw [hf']; exact ⟨hg, k + 1, r, hm, And.intro hno rfl⟩
          · simpa [fzs] using ObLe_call hR [] r.fcells
        | zero =>
          obtain ⟨h1, h2, h3⟩ := h
          rw [hob, hnx] at h2; rw [hnx] at h1 h3
          rw [← h1, ← h2, ← h3]
          refine ⟨call_sound ho ?_ hd hR, ObLe_call hR _ _⟩
          unfold callV; rw [hf']; exact ⟨hg, 0, r, hm, rfl⟩
      · exact h.elim
    · exact h.elim
  · exact h.elim

theorem effV_isEff {o : Oper} {s : St} {K : V → List (Nat × Option Ob) → Nat → Prop} (h : effV P o s K) : isEff o.op = true := by
  unfold effV at h
  split at h
  · rename_i ho; rw [ho]; rfl
  · rename_i ho; rw [ho]; rfl
  · rename_i c ho
    split at h
    · rename_i hc; rw [ho]; simp only [isEff, hc]
    · exact h.elim
  · exact h.elim
theorem SF_isEff {ops : List Oper} {o : Oper} {s : St} {x : HI} (h : SF P ops o s x) (hx : x.eff = true) : isEff o.op = true := by
  obtain ⟨_, h⟩ := h
  unfold hstep at h
  split at h
  · split at h
    · obtain ⟨_, h, _⟩ := h; rw [hx] at h; cases h
    · exact effV_isEff h
  · split at h
    · split at h
      · split at h
        · obtain ⟨_, h, _⟩ := h; rw [hx] at h; cases h
        · exact h.1
      · exact h.elim
    · exact h.elim
end
end Go.Ab
