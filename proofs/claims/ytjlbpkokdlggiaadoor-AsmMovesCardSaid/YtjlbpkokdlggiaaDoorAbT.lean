/- Abstract states for walks, part 20: regions that draw their order: what is known when some operations have run. -/
import Derived.Test.YtjlbpkokdlggiaaDoorAbS
namespace Go.Ab
open Go.RowKit

theorem eT_sub (A B : Nat → Bool) (T : List (Nat × V)) (t : Nat) : ∀ (l : List HI) (i : Nat), (∀ j, j < l.length → A (i + j) = true → B (i + j) = true) → lkT (eT A i l ++ T) t = .poi ∨ lkT (eT A i l ++ T) t = lkT (eT B i l ++ T) t
  | [], i, _ => .inr rfl
  | x :: l, i, h => by
    have ih := eT_sub A B T t l (i + 1) (fun j hj hA => by
      have := h (j + 1) (by simpa using hj) (by rw [show i + (j + 1) = i + 1 + j by omega]; exact hA)
      rwa [show i + (j + 1) = i + 1 + j by omega] at this)
    simp only [eT]
    cases x.dst with
    | none => simpa using ih
    | some d =>
      simp only [List.cons_append, List.nil_append, lkT]
      split
      · cases hA : A i with
        | false => exact .inl rfl
        | true =>
          have hB := h 0 (by simp) (by simpa using hA)
          simp only [Nat.add_zero] at hB
          rw [hB]; exact .inr rfl
      · exact ih

theorem eT_same (A B : Nat → Bool) : ∀ (l : List HI) (i : Nat), (∀ j, j < l.length → A (i + j) = B (i + j)) → eT A i l = eT B i l
  | [], i, _ => rfl
  | x :: l, i, h => by
    have h0 := h 0 (by simp)
    simp only [Nat.add_zero] at h0
    simp only [eT, h0]
    rw [eT_same A B l (i + 1) (fun j hj => by
      have := h (j + 1) (by simpa using hj)
      rwa [show i + (j + 1) = i + 1 + j by omega] at this)]

theorem eT_put [Glo] (L : Nat → Bool) (T : List (Nat × V)) (t : Nat) {k : Nat} {x : HI} : ∀ (l : List HI) (i : Nat), i ≤ k → l[k - i]? = some x → (l.filterMap (·.dst)).Nodup →
    lkT (eT (fun j => decide (j = k) || L j) i l ++ T) t = .poi ∨ lkT (eT (fun j => decide (j = k) || L j) i l ++ T) t = (match x.dst with | some d => lkT ((d, x.v) :: (eT L i l ++ T)) t | none => lkT (eT L i l ++ T) t)
  | [], i, _, h, _ => by simp at h
  | y :: l, i, hik, h, hn => by
    by_cases he : i = k
    · subst he
      simp only [Nat.sub_self, List.getElem?_cons_zero, Option.some.injEq] at h
      subst h
      have hrest : eT (fun j => decide (j = i) || L j) (i + 1) l = eT L (i + 1) l := eT_same _ _ l (i + 1) (fun j _ => by simp; omega)
      simp only [eT, hrest]
      cases y.dst with
      | none => exact .inr rfl
      | some d =>
        refine .inr ?_
        simp only [List.cons_append, List.nil_append, lkT, decide_true, Bool.true_or, cond_true]
        split <;> simp_all
    · have hlt : i + 1 ≤ k := by omega
      have hx : l[k - (i + 1)]? = some x := by
        rw [show k - i = (k - (i + 1)) + 1 by omega] at h
        simpa using h
      have hn' : (l.filterMap (·.dst)).Nodup := by
        cases hd : y.dst with
        | none => simpa [List.filterMap_cons, hd] using hn
        | some d => rw [List.filterMap_cons, hd] at hn; exact (List.nodup_cons.1 hn).2
      have ih := eT_put L T t l (i + 1) hlt hx hn'
      have hdec : (decide (i = k) || L i) = L i := by simp [he]
      simp only [eT, hdec]
      cases hd : y.dst with
      | none => simpa using ih
      | some d =>
        simp only [List.cons_append, List.nil_append]
        cases hxd : x.dst with
        | none =>
          rw [hxd] at ih
          simp only [lkT] at ih ⊢
          split
          · exact .inr rfl
          · exact ih
        | some d' =>
          have hne : d' ≠ d := fun e => by
            rw [List.filterMap_cons, hd] at hn
            exact (List.nodup_cons.1 hn).1 (List.mem_filterMap.2 ⟨x, List.mem_of_getElem? hx, by rw [hxd, e]⟩)
          rw [hxd] at ih
          simp only [lkT] at ih ⊢
          by_cases h1 : t = d
          · subst h1
            rw [if_pos rfl, if_neg (fun e => hne e.symm), if_pos rfl]
            exact .inr rfl
          · rw [if_neg h1]
            by_cases h2 : t = d'
            · rw [if_pos h2] at ih ⊢; exact ih
            · rw [if_neg h2] at ih; rw [if_neg h2, if_neg h1]; exact ih

theorem eO_mem (L : Nat → Bool) : ∀ (l : List HI) (i : Nat) (b : List (Nat × Option Ob) × Nat), eO L i l b = b ∨ ∃ j x, l[j]? = some x ∧ x.eff = true ∧ L (i + j) = true ∧ (eO L i l b).1 = x.ob ∧ (eO L i l b).2 = x.nx
  | [], i, b => .inl rfl
  | x :: l, i, b => by
    simp only [eO]
    rcases eO_mem L l (i + 1) (bif x.eff && L i then (x.ob, x.nx) else b) with h | ⟨j, y, h1, h2, h3, h4, h5⟩
    · cases hc : (x.eff && L i) with
      | false => rw [hc] at h; exact .inl (by simpa using h)
      | true =>
        rw [hc] at h
        simp only [cond_true] at h ⊢
        simp only [Bool.and_eq_true] at hc
        exact .inr ⟨0, x, rfl, hc.1, by simpa using hc.2, by rw [h], by rw [h]⟩
    · exact .inr ⟨j + 1, y, by simpa using h1, h2, by rw [show i + (j + 1) = i + 1 + j by omega]; exact h3, h4, h5⟩

theorem eO_last [Glo] (L : Nat → Bool) {k : Nat} {x : HI} (hx : x.eff = true) (hk : L k = true) : ∀ (l : List HI) (i : Nat) (b : List (Nat × Option Ob) × Nat), i ≤ k → l[k - i]? = some x → (∀ j y, l[j]? = some y → k < i + j → y.eff = true → L (i + j) = false) → eO L i l b = (x.ob, x.nx)
  | [], i, b, _, h, _ => by simp at h
  | y :: l, i, b, hik, h, hno => by
    by_cases he : i = k
    · subst he
      simp only [Nat.sub_self, List.getElem?_cons_zero, Option.some.injEq] at h
      subst h
      simp only [eO, hx, hk, Bool.and_self, cond_true]
      rcases eO_mem L l (i + 1) (y.ob, y.nx) with h | ⟨j, z, h1, h2, h3, _⟩
      · exact h
      · have := hno (j + 1) z (by simpa using h1) (by omega) h2
        rw [show i + (j + 1) = i + 1 + j by omega] at this
        rw [this] at h3; cases h3
    · simp only [eO]
      refine eO_last L hx hk l (i + 1) _ (by omega) (by
        rw [show k - i = (k - (i + 1)) + 1 by omega] at h
        simpa using h) (fun j z hz hlt he' => ?_)
      have := hno (j + 1) z (by simpa using hz) (by omega) he'
      rwa [show i + (j + 1) = i + 1 + j by omega] at this

theorem eO_cases (L : Nat → Bool) : ∀ (l : List HI) (i : Nat) (b : List (Nat × Option Ob) × Nat), (eO L i l b = b ∧ ∀ j x, l[j]? = some x → x.eff = true → L (i + j) = false) ∨
    ∃ j x, l[j]? = some x ∧ x.eff = true ∧ L (i + j) = true ∧ (∀ j' y, j < j' → l[j']? = some y → y.eff = true → L (i + j') = false) ∧ eO L i l b = (x.ob, x.nx)
  | [], i, b => .inl ⟨rfl, fun j x h => by simp at h⟩
  | x :: l, i, b => by
    simp only [eO]
    rcases eO_cases L l (i + 1) (bif x.eff && L i then (x.ob, x.nx) else b) with ⟨h1, h2⟩ | ⟨j, y, h1, h2, h3, h4, h5⟩
    · have hlater : ∀ j' y, 0 < j' → (x :: l)[j']? = some y → y.eff = true → L (i + j') = false := fun j' y hj hy he => by
        obtain ⟨k, rfl⟩ : ∃ k, j' = k + 1 := ⟨j' - 1, by omega⟩
        have := h2 k y (by simpa using hy) he
        rwa [show i + 1 + k = i + (k + 1) by omega] at this
      cases hc : (x.eff && L i) with
      | false =>
        rw [hc] at h1
        refine .inl ⟨by simpa using h1, fun j y hy he => ?_⟩
        cases j with
        | zero => simp at hy; subst hy; simpa [he] using hc
        | succ k => exact hlater (k + 1) y (by omega) hy he
      | true =>
        rw [hc] at h1
        simp only [Bool.and_eq_true] at hc
        exact .inr ⟨0, x, rfl, hc.1, by simpa using hc.2, hlater, by simpa using h1⟩
    · refine .inr ⟨j + 1, y, by simpa using h1, h2, by rw [show i + (j + 1) = i + 1 + j by omega]; exact h3, fun j' z hj hz he => ?_, h5⟩
      obtain ⟨k, rfl⟩ : ∃ k, j' = k + 1 := ⟨j' - 1, by omega⟩
      have := h4 k z (by omega) (by simpa using hz) he
      rwa [show i + 1 + k = i + (k + 1) by omega] at this
theorem eO_none [Glo] (L : Nat → Bool) (l : List HI) (i : Nat) (b : List (Nat × Option Ob) × Nat) (h : ∀ j x, l[j]? = some x → x.eff = true → L (i + j) = false) : eO L i l b = b := by
  rcases eO_cases L l i b with ⟨h1, _⟩ | ⟨j, x, h1, h2, h3, _⟩
  · exact h1
  · rw [h j x h1 h2] at h3; cases h3

section
variable {P : Program} {base : Nat} {Xa : Nat → Prop} {w0 : W0} {w w' : World} {st : St} {a : Act} {M M' : Mp} {X X' : Nat → Prop} {n n' : Nat}

theorem RelM.weakT [Glo] (h : RelM base Xa w0 st a w M) {T : List (Nat × V)} (hT : ∀ t, lkT T t = .poi ∨ lkT T t = lkT st.tmp t) : RelM base Xa w0 { st with tmp := T } a w M :=
  ⟨h.below, h.hbase, h.xa, h.gh, h.pin, h.defers, h.size, fun t => by
    rcases hT t with e | e
    · simp only [e]; exact .poi _ _
    · simp only [e]; exact h.tmps t, h.obs, h.dist⟩

theorem ev_eq [Glo] {s S : St} (hT : ∀ t, lkT s.tmp t = .poi ∨ lkT s.tmp t = lkT S.tmp t) (x : Operand) (h : isPoi (ev s x) = false) : ev s x = ev S x := by
  cases x with
  | tmp t =>
    rcases hT t with e | e
    · simp only [ev, e, isPoi] at h; cases h
    · exact e
  | _ => rfl

theorem boxC_np {v : V} {cs : List V} (h : boxC v = some cs) : isPoi v = false := by cases v <;> first | rfl | (simp [boxC] at h)
theorem fill_frame [Glo] {s S : St} (hT : ∀ t, lkT s.tmp t = .poi ∨ lkT s.tmp t = lkT S.tmp t) (place : Nat → Option (Nat × Nat)) : ∀ (parts : List (Nat × Operand)) (cs cs' : List V), fillV s place cs parts = some cs' → fillV S place cs parts = some cs'
  | [], cs, cs', h => h
  | (i, x) :: r, cs, cs', h => by
    simp only [fillV] at h ⊢
    split at h
    · exact h
    · rename_i off m hp
      split at h
      · rename_i ds hds
        rw [← ev_eq hT x (boxC_np hds), hds]
        simp only
        split at h
        · rename_i hc; rw [if_pos hc]; exact fill_frame hT place r _ cs' h
        · simp at h
      · simp at h
/-- An operation that lays memory or writes it, seen by one who knows more of the slots. -/
theorem effV_frame [Glo] {o : Oper} {s S : St} {K : V → List (Nat × Option Ob) → Nat → Prop} (h : effV P o s K) (hT : ∀ t, lkT s.tmp t = .poi ∨ lkT s.tmp t = lkT S.tmp t) (hob : s.ob = S.ob) (hnx : s.nx = S.nx) : effV P o S K := by
  unfold effV at h ⊢
  split at h
  · rw [← hob, ← hnx]; exact h
  · rename_i t x ho
    split at h
    · rename_i cs hc
      rw [← ev_eq hT x (boxC_np hc), hc, ← hob, ← hnx]; exact h
    · exact h.elim
  · rename_i t x y ho
    split at h
    · rename_i m ag id sz i off ds hty hx hy
      rw [← ev_eq hT x (by rw [hx]; rfl), hx, ← ev_eq hT y (boxC_np hy), hy, hty, ← hob, ← hnx]; exact h
    · exact h.elim
  · rename_i t len parts ho
    split at h
    · rename_i e sz bb hsl
      split at h
      · rename_i zs hz
        split at h
        · rename_i cs hf
          simp only [fill_frame hT _ _ _ _ hf]
          rw [← hob, ← hnx]; exact h
        · exact h.elim
      · exact h.elim
    · exact h.elim
  · rename_i c ho
    split at h
    · rename_i f hcal
      split at h
      · rename_i fid hf
        obtain ⟨hp, h⟩ := h
        have hf' : ev S f = .fn fid := by rw [← ev_eq hT f (by rw [hf]; rfl)]; exact hf
        have hargs : c.args.toList.map (ev s) = c.args.toList.map (ev S) := List.map_congr_left fun y hy => ev_eq hT y (by
          have := List.all_eq_true.1 hp y hy
          simpa using this)
        have hp' : (c.args.toList.all fun x => !isPoi (ev S x)) = true := by
          rw [List.all_eq_true] at hp ⊢
          intro y hy
          have := hp y hy
          rw [← ev_eq hT y (by simpa using this)]; exact this
        rw [hf']
        simp only
        refine ⟨hp', ?_⟩
        rw [← hargs, ← hob]
        obtain ⟨hg, nf, r, hm, ha⟩ := h
        refine ⟨hg, nf, r, hm, ?_⟩
        cases nf <;> simp only [aftE] at ha ⊢ <;> rw [← hob, ← hnx] <;> exact ha
      · exact h.elim
    · split at h
      · rename_i x y t t' hargs htys
        obtain ⟨ht, h⟩ := h
        refine ⟨ht, ?_⟩
        unfold appE at h
        split at h
        · rename_i e sz bb hsl
          split at h
          · rename_i p ys hsrc
            have hy : ev s y = ev S y := ev_eq hT y (by cases hv : ev s y <;> first | rfl | (rw [hv] at hsrc; simp [srcV] at hsrc))
            have hx : ev s x = ev S x := ev_eq hT x (by cases hv : ev s x <;> first | rfl | (rw [hv] at h; exact h.2.elim))
            have hsrc' : srcV S sz (ev S y) = some (p, ys) := by
              rw [← hy, ← hsrc]
              unfold srcV
              rw [← hob]
            unfold appE
            rw [hsl]
            simp only [hsrc']
            rw [← hx, ← hy, ← hob, ← hnx]
            exact h
          · exact h.elim
        · exact h.elim
      · exact h.elim
    · exact h.elim
  · exact h.elim
/-- What part 10 says of it. -/
theorem opV_of_effV [Glo] {o : Oper} {K : St → Prop} (h : effV P o st fun v ob nx => K ({ st with nx := nx, ob := ob }.put o.dst v)) : opV P o K st := by
  unfold effV at h
  split at h
  · rename_i t ho; unfold opV; simp only [ho, pv]; exact h
  · rename_i t x ho; unfold opV; simp only [ho, pv]; exact h
  · rename_i t x y ho; unfold opV; simp only [ho, pv]; exact h
  · rename_i t len parts ho; unfold opV; simp only [ho, pv]; exact h
  · rename_i c ho
    obtain ⟨callee, args, tys⟩ := c
    split at h
    · rename_i f hcal
      simp only at hcal; subst hcal
      unfold opV; simp only [ho, pv]
      split at h
      · rename_i fid hf
        obtain ⟨hp, hg, nf, r, hm, ha⟩ := h
        unfold callV
        simp only [hf]
        refine ⟨hg, .inl ⟨nf, r, hm, ?_⟩⟩
        cases nf <;> exact ha
      · exact h.elim
    · rename_i hcal
      simp only at hcal; subst hcal
      split at h
      · rename_i x y t t' hargs htys
        simp only at hargs htys
        unfold opV; simp only [ho, pv, bv, hargs, htys]
        obtain ⟨ht, h⟩ := h
        refine ⟨ht, ?_⟩
        unfold appE at h
        unfold appV
        split at h
        · rename_i e sz bb hsl
          split at h
          · rename_i p ys hsrc
            simp only [hsl, hsrc]
            exact h
          · exact h.elim
        · exact h.elim
      · exact h.elim
    · exact h.elim
  · exact h.elim

theorem eff_sound [Glo] {o : Oper} {s S : St} {x : HI} {QC : Exit → Act → World → Prop} (h : effV P o s fun v ob nx => v = x.v ∧ ob = x.ob ∧ nx = x.nx) (hT : ∀ t, lkT s.tmp t = .poi ∨ lkT s.tmp t = lkT S.tmp t) (hob : s.ob = S.ob) (hnx : s.nx = S.nx)
    (hok : okO P S.n o = true) (hR : RelM base Xa w0 S a w M) : o.wp P a w (Nx base Xa w0 S.n (fun st' => st' = { S with nx := x.nx, ob := x.ob }.put o.dst x.v)) QC :=
  opV_sound (opV_of_effV (effV_mono (effV_frame h hT hob hnx) fun v ob nx ⟨h1, h2, h3⟩ => by rw [h1, h2, h3])) hok hR

theorem gcall_sound [Glo] {o : Oper} {s S : St} {x : HI} {b want : Bool} {QC : Exit → Act → World → Prop} (h : gcallE P o b want s fun v ob nx => v = x.v ∧ ob = x.ob ∧ nx = x.nx) (hT : ∀ t, lkT s.tmp t = .poi ∨ lkT s.tmp t = lkT S.tmp t) (hob : s.ob = S.ob) (hnx : s.nx = S.nx)
    (hok : okO P S.n o = true) (hR : RelM base Xa w0 S a w M) : if (b == want) = true then o.wp P a w (Nx base Xa w0 S.n (fun st' => st' = { S with nx := x.nx, ob := x.ob }.put o.dst x.v)) QC
      else Nx base Xa w0 S.n (fun st' => st' = { S with nx := x.nx, ob := x.ob }.put o.dst x.v) (a.put o.dst undef) w := by
  have hd : ∀ d, o.dst = some d → d < S.n := fun d hd => by
    unfold okO at hok
    simp only [hd, Bool.and_eq_true, decide_eq_true_eq] at hok
    exact hok.1
  rcases h with h | ⟨r, h⟩
  · split
    · rename_i hbw
      exact eff_sound (h.1 (by simpa using hbw)) hT hob hnx hok hR
    · rename_i hbw
      obtain ⟨h1, h2, h3⟩ := h.2 (by cases b <;> cases want <;> simp_all)
      rw [← h1, ← h2, ← h3, hob, hnx]
      exact Nx.of rfl (hR.put hd (.poi _ _)) rfl
  · refine uni_sound (r := r) ?_ hd hR
    unfold uniE at h
    split at h
    · rename_i c ho
      split at h
      · rename_i f hcal
        split at h
        · rename_i fid hf
          obtain ⟨hp, hm, hobs, h1, h2, h3⟩ := h
          have hf' : ev S f = .fn fid := by rw [← ev_eq hT f (by rw [hf]; rfl)]; exact hf
          have hargs : c.args.toList.map (ev s) = c.args.toList.map (ev S) := List.map_congr_left fun y hy => ev_eq hT y (by
            have := List.all_eq_true.1 hp y hy
            simpa using this)
          unfold uniV
          simp only [ho, hcal, hf']
          rw [hargs, hob] at hm h2
          rw [hnx] at hobs h1 h3
          exact ⟨hm, hobs, by rw [← h1, ← h2, ← h3]⟩
        · exact h.elim
      · exact h.elim
    · exact h.elim

theorem effV_isEff [Glo] {o : Oper} {s : St} {K : V → List (Nat × Option Ob) → Nat → Prop} (h : effV P o s K) : isEff o.op = true := by
  unfold effV at h
  split at h
  · rename_i ho; rw [ho]; rfl
  · rename_i ho; rw [ho]; rfl
  · rename_i ho; rw [ho]; rfl
  · rename_i ho; rw [ho]; rfl
  · rename_i c ho
    split at h
    · rename_i hc; rw [ho]; simp only [isEff, hc]
    · rename_i hc; rw [ho]; simp only [isEff, hc]
    · exact h.elim
  · exact h.elim
theorem SF_isEff [Glo] {ops : List (Option Tmp)} {o : Oper} {s : St} {x : HI} (h : SF P ops o s x) (hx : x.eff = true) : isEff o.op = true := by
  obtain ⟨_, h⟩ := h
  unfold hstep at h
  split at h
  · split at h
    · obtain ⟨_, h, _⟩ := h; rw [hx] at h; cases h
    · exact effV_isEff h
  · split at h
    · split at h
      · split at h
        · obtain ⟨_, h, _⟩ := h; rw [hx] at h; cases h
        · exact h.1
      · exact h.elim
    · exact h.elim
end
end Go.Ab
