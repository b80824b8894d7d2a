/- Abstract states for walks, part 24: regions that draw their order: any mode's order; one step inside a segment. -/
import Derived.Test.YtjlbpkokdlggiaaDoorAbU
namespace Go.Ab
open Go.RowKit

section
variable {P : Program} {ops : Array Oper} {Q : Exit → Act → World → Prop}
/-- what linearise gives: each once, all, each behind what binds it -/
structure LinExt (ops : Array Oper) (m : Region.Mode) (done : Nat → Bool) (R : List Nat) : Prop where
  mem : ∀ i ∈ R, i < ops.size ∧ done i = false
  nodup : R.Nodup
  all : ∀ i, i < ops.size → done i = false → i ∈ R
  pre : ∀ l1 i l2, R = l1 ++ i :: l2 → ∀ o, ops[i]? = some o → ∀ e ∈ o.after, Region.binds m e = true → done e.on = true ∨ e.on ∈ l1

theorem lin_ext [Glo] (m : Region.Mode) (rk : Nat → Nat) (hacyc : ∀ (i : Nat) (o : Oper), ops[i]? = some o → ∀ e ∈ o.after, Region.binds m e = true → e.on < ops.size ∧ rk e.on < rk i) :
    ∀ (fuel t : Nat) (listed : Array Bool), listed.size = ops.size → (List.range ops.size).countP (fun i => !listed.getD i true) ≤ fuel → LinExt ops m (fun i => listed.getD i true) (Region.linearise.go m ops fuel t listed [])
  | 0, t, listed, hsz, hf => by
    simp only [Region.linearise.go, List.reverse_nil]
    refine ⟨by simp, by simp, fun i hi hd => ?_, fun l1 i l2 h => by simp at h⟩
    have h0 : (List.range ops.size).countP (fun i => !listed.getD i true) = 0 := by omega
    have := List.countP_eq_zero.1 h0 i (List.mem_range.2 hi)
    rw [hd] at this; simp at this
  | fuel + 1, t, listed, hsz, hf => by
    rw [Region.linearise.go]
    generalize hrs : (List.range ops.size).filter (fun i => !listed.getD i true && ((ops[i]?).map (·.after.all fun e => !Region.binds m e || listed.getD e.on false)).getD false) = rs
    have hmem : ∀ i, i ∈ rs ↔ i < ops.size ∧ listed.getD i true = false ∧ ((ops[i]?).map (·.after.all fun e => !Region.binds m e || listed.getD e.on false)).getD false = true := fun i => by
      rw [← hrs, List.mem_filter, List.mem_range]; simp
    split
    · rename_i i hi
      have hir := (hmem i).1 (List.mem_of_getElem? hi)
      rw [go_acc]
      simp only [List.reverse_cons, List.reverse_nil, List.nil_append, List.singleton_append]
      obtain ⟨o, ho⟩ : ∃ o, ops[i]? = some o := ⟨ops[i]'hir.1, Array.getElem?_eq_getElem hir.1⟩
      have hpre : ∀ e ∈ o.after, Region.binds m e = true → listed.getD e.on true = true := fun e he hb => by
        have h := hir.2.2
        rw [ho] at h
        simp only [Option.map_some, Option.getD_some, Array.all_eq_true'] at h
        have := h e he
        simp only [hb, Bool.not_true, Bool.false_or] at this
        have hlt : e.on < listed.size := by
          rw [hsz]
          exact (hacyc i o ho e he hb).1
        simpa [Array.getD, hlt] using this
      have hset : ∀ j, j < ops.size → (listed.setIfInBounds i true).getD j true = (decide (j = i) || listed.getD j true) := fun j hj => by
        simp only [Array.getD_eq_getD_getElem?, Array.getElem?_setIfInBounds]
        by_cases e : j = i
        · subst e; simp; split <;> rfl
        · rw [if_neg (by omega)]; simp [e]
      have ih := lin_ext m rk hacyc fuel (t / rs.length) (listed.setIfInBounds i true) (by simpa using hsz) (by
        have := countP_lt (fun j => !listed.getD j true) (fun j => !(listed.setIfInBounds i true).getD j true) (List.range ops.size) (fun j hj hq => by
          rw [hset j (List.mem_range.1 hj)] at hq
          simp only [Bool.not_or, Bool.and_eq_true] at hq
          exact hq.2) i (List.mem_range.2 hir.1) (by simpa using hir.2.1) (by rw [hset i hir.1]; simp)
        omega)
      obtain ⟨q1, q2, q3, q4⟩ := ih
      have hne : ∀ j, j < ops.size → (listed.setIfInBounds i true).getD j true = false → j ≠ i ∧ listed.getD j true = false := fun j hj h => by
        rw [hset j hj] at h
        simpa using h
      refine ⟨fun j hj => ?_, List.nodup_cons.2 ⟨fun hc => ?_, q2⟩, fun j hj hd => ?_, fun l1 j l2 h o' ho' e he hb => ?_⟩
      · rcases List.mem_cons.1 hj with rfl | hj
        · exact ⟨hir.1, hir.2.1⟩
        · obtain ⟨h1, h2⟩ := q1 j hj
          exact ⟨h1, (hne j h1 h2).2⟩
      · obtain ⟨h1, h2⟩ := q1 i hc
        exact (hne i h1 h2).1 rfl
      · by_cases e : j = i
        · subst e; exact List.mem_cons_self ..
        · refine List.mem_cons_of_mem _ (q3 j hj ?_)
          rw [hset j hj]
          simp [e, hd]
      · cases l1 with
        | nil =>
          simp only [List.nil_append, List.cons.injEq] at h
          obtain ⟨rfl, _⟩ := h
          rw [ho] at ho'
          simp only [Option.some.injEq] at ho'
          subst ho'
          exact .inl (hpre e he hb)
        | cons x l1 =>
          simp only [List.cons_append, List.cons.injEq] at h
          obtain ⟨rfl, h⟩ := h
          have hlt := (hacyc j o' ho' e he hb).1
          rcases q4 l1 j l2 h o' ho' e he hb with h1 | h1
          · rw [hset _ hlt] at h1
            simp only [Bool.or_eq_true, decide_eq_true_eq] at h1
            rcases h1 with h1 | h1
            · exact .inr (by rw [h1]; exact List.mem_cons_self ..)
            · exact .inl h1
          · exact .inr (List.mem_cons_of_mem _ h1)
    · rename_i hnone
      have hrs0 : rs = [] := by
        rcases Nat.eq_zero_or_pos rs.length with h | h
        · exact List.eq_nil_of_length_eq_zero h
        · rw [List.getElem?_eq_getElem (Nat.mod_lt t h)] at hnone; cases hnone
      simp only [List.reverse_nil]
      have key : ∀ (r i : Nat), rk i = r → i < ops.size → listed.getD i true = true := fun r => by
        induction r using Nat.strongRecOn with
        | _ r ih =>
          intro i hr hi
          cases hli : listed.getD i true with
          | true => rfl
          | false =>
            exfalso
            have : i ∈ rs := (hmem i).2 ⟨hi, hli, by
              rw [Array.getElem?_eq_getElem hi]
              simp only [Option.map_some, Option.getD_some, Array.all_eq_true']
              intro e he
              cases hb : Region.binds m e with
              | false => rfl
              | true =>
                obtain ⟨hlt, hlt2⟩ := hacyc i _ (Array.getElem?_eq_getElem hi) e he hb
                have := ih (rk e.on) (by omega) e.on rfl hlt
                have hlt' : e.on < listed.size := by omega
                have h2 : listed.getD e.on false = true := by
                  rw [Array.getD_eq_getD_getElem?, Array.getElem?_eq_getElem hlt'] at this ⊢
                  exact this
                rw [h2]; simp⟩
            rw [hrs0] at this
            cases this
      refine ⟨by simp, by simp, fun i hi hd => ?_, fun l1 i l2 h => by simp at h⟩
      have := key _ i rfl hi
      rw [this] at hd; cases hd

/-- A list of operations, each behind what it must come behind. -/
theorem list_sound [Glo] (pre : Nat → Nat → Prop) (Good : (Nat → Bool) → Act → World → Prop)
    (step : ∀ L a w, Good L a w → ∀ (i : Nat) (o : Oper), ops[i]? = some o → L i = false → (∀ j, pre j i → L j = true) →
      if Region.wanted o (yielded ops a.tmps) = true then o.wp P a w (Good fun j => decide (j = i) || L j) Q else Good (fun j => decide (j = i) || L j) (a.put o.dst undef) w)
    (hend : ∀ L a w, Good L a w → (∀ i, i < ops.size → L i = true) → Q .normal a w) :
    ∀ (R : List Nat) (L : Nat → Bool) (a : Act) (w : World), (∀ i ∈ R, i < ops.size ∧ L i = false) → R.Nodup → (∀ i, i < ops.size → L i = false → i ∈ R) →
      (∀ l1 i l2, R = l1 ++ i :: l2 → ∀ j, pre j i → L j = true ∨ j ∈ l1) → Good L a w → wpOps P ops Q R a w
  | [], L, a, w, _, _, hall, _, hg => by
    simp only [wpOps]
    refine hend L a w hg fun i hi => ?_
    cases h : L i with
    | true => rfl
    | false => have := hall i hi h; simp at this
  | i :: R, L, a, w, hmem, hnd, hall, hpre, hg => by
    obtain ⟨hi, hLi⟩ := hmem i (List.mem_cons_self ..)
    obtain ⟨o, ho⟩ : ∃ o, ops[i]? = some o := ⟨ops[i]'hi, Array.getElem?_eq_getElem hi⟩
    have hs := step L a w hg i o ho hLi (fun j hj => by
      rcases hpre [] i R rfl j hj with h | h
      · exact h
      · simp at h)
    have hnd' := List.nodup_cons.1 hnd
    have next : ∀ a' w', Good (fun j => decide (j = i) || L j) a' w' → wpOps P ops Q R a' w' := fun a' w' hg' =>
      list_sound pre Good step hend R _ a' w' (fun j hj => by
          refine ⟨(hmem j (List.mem_cons_of_mem _ hj)).1, ?_⟩
          simp only [Bool.or_eq_false_iff, decide_eq_false_iff_not]
          exact ⟨fun e => hnd'.1 (e ▸ hj), (hmem j (List.mem_cons_of_mem _ hj)).2⟩) hnd'.2 (fun j hj hd => by
          simp only [Bool.or_eq_false_iff, decide_eq_false_iff_not] at hd
          rcases List.mem_cons.1 (hall j hj hd.2) with h | h
          · exact absurd h hd.1
          · exact h) (fun l1 j l2 h k hk => by
          rcases hpre (i :: l1) j l2 (by rw [h]; rfl) k hk with h' | h'
          · exact .inl (by simp [h'])
          · rcases List.mem_cons.1 h' with rfl | h'
            · exact .inl (by simp)
            · exact .inr h') hg'
    simp only [wpOps, ho]
    split
    · rename_i hw
      rw [if_pos hw] at hs
      exact .inl (oper_mono hs next)
    · rename_i hw
      rw [if_neg hw] at hs
      exact next _ _ hs
end

/-- a segment of a region: its operations in whatever order what they surely come behind (prs) allows -/
structure SegOk (P : Program) (n : Nat) (seg : List Oper) (prs : List (List Nat)) : Prop where
  ok : ∀ o ∈ seg, okO P n o = true
  prlt : ∀ i j, j ∈ prs.getD i [] → j < i
  chain : ∀ (i j : Nat) (o o' : Oper), seg[i]? = some o → seg[j]? = some o' → isEff o.op = true → isEff o'.op = true → j < i → j ∈ prs.getD i []
  nodup : (seg.filterMap (·.dst)).Nodup

/-- operations whose value hangs on the objects -/
def usesOb : Op → Bool
  | .load _ _ => true
  | .indexAddr _ _ _ => true
  | .convert _ _ _ => true
  | .slice _ _ _ _ _ => true
  | .call _ => true
  | _ => false
theorem ev_tmp [Glo] {s s' : St} (hT : s.tmp = s'.tmp) : ev s = ev s' := by funext x; cases x <;> simp [ev, hT]
theorem fill_tmp [Glo] {s s' : St} (hT : s.tmp = s'.tmp) (place : Nat → Option (Nat × Nat)) : ∀ (parts : List (Nat × Operand)) (cs : List V), fillV s place cs parts = fillV s' place cs parts
  | [], cs => rfl
  | (i, x) :: r, cs => by simp only [fillV, ev_tmp hT, fill_tmp hT place r]
theorem hpv_tmp [Glo] {P : Program} {s s' : St} {op : Op} (hu : usesOb op = false) (hT : s.tmp = s'.tmp) : hpv P s op = hpv P s' op := by
  have he := ev_tmp hT
  cases op <;> first | (simp [usesOb] at hu; done) | (simp only [hpv, pv, he]; done) | (simp only [hpv, pv, he, fill_tmp hT]; done) | rfl
theorem fix_tmp {s s' : St} (hT : s.tmp = s'.tmp) : ∀ l : List Operand, (fixG s l).tmp = (fixG s' l).tmp
  | [] => hT
  | x :: r => by
    have ih := fix_tmp hT r
    cases x with
    | tmp t =>
      simp only [fixG, hT]
      split
      · simp only [ih]
      · exact ih
    | _ => simpa only [fixG] using ih
theorem okAll_tmp {s s' : St} (hT : s.tmp = s'.tmp) : ∀ l : List Operand, okAll s l ↔ okAll s' l
  | [] => Iff.rfl
  | x :: r => by
    have ih := okAll_tmp hT r
    cases x with
    | tmp t => simp only [okAll, hT, ih]
    | _ => simpa only [okAll] using ih
theorem hstep_tmp [Glo] {P : Program} {ops : List (Option Tmp)} {o : Oper} {s s' : St} {K : Bool → V → List (Nat × Option Ob) → Nat → Prop} (hu : usesOb o.op = false) (hE : isEff o.op = false) (hT : s.tmp = s'.tmp) (h : hstep P ops o s K) : hstep P ops o s' K := by
  unfold hstep at h ⊢
  split at h
  · rw [← hpv_tmp hu hT]
    split at h
    · exact h
    · rw [effV_isEff h] at hE; cases hE
  · split at h
    · rename_i d hd
      rw [← hT]
      split at h
      · rename_i b hb
        rw [← hpv_tmp hu (fix_tmp hT _)]
        split at h
        · exact ⟨fun e => ⟨(h.1 e).1, (okAll_tmp hT _).1 (h.1 e).2⟩, h.2⟩
        · rw [h.1] at hE; cases hE
      · exact h.elim
    · exact h.elim
theorem hstep_mono [Glo] {P : Program} {ops : List (Option Tmp)} {o : Oper} {s : St} {K K' : Bool → V → List (Nat × Option Ob) → Nat → Prop} (h : hstep P ops o s K) (hK : ∀ e v ob nx, K e v ob nx → K' e v ob nx) : hstep P ops o s K' := by
  unfold hstep at h ⊢
  split at h
  · split at h
    · exact ⟨h.1, hK _ _ _ _ h.2⟩
    · exact effV_mono h fun _ _ _ => hK _ _ _ _
  · split at h
    · split at h
      · split at h
        · exact ⟨h.1, hK _ _ _ _ h.2⟩
        · exact ⟨h.1, gcallE_mono h.2 fun _ _ _ => hK _ _ _ _⟩
      · exact h
    · exact h
theorem hpv_eff [Glo] {P : Program} {s : St} {op : Op} (h : isEff op = true) : hpv P s op = none := by
  cases op <;> first | rfl | (simp [isEff] at h; done) | skip
  rename_i c
  obtain ⟨callee, args, tys⟩ := c
  cases callee with
  | value f => rfl
  | invoke r m => simp [isEff] at h
  | builtin b => cases b <;> first | (simp [isEff] at h; done) | simp [hpv, pv, bv]
theorem SF_notEff [Glo] {P : Program} {ops : List (Option Tmp)} {o : Oper} {s : St} {x : HI} (h : SF P ops o s x) (hx : x.eff = false) : isEff o.op = false := by
  cases hE : isEff o.op with
  | false => rfl
  | true =>
    exfalso
    obtain ⟨_, h⟩ := h
    unfold hstep at h
    split at h
    · rw [hpv_eff hE] at h
      obtain ⟨v, ob, nx, hk, _⟩ := effV_ex h
      rw [hx] at hk; cases hk.1
    · split at h
      · split at h
        · rw [hpv_eff hE] at h
          obtain ⟨v, ob, nx, hk, _⟩ := gcallE_ex h.2
          rw [hx] at hk; cases hk.1
        · exact h.elim
      · exact h.elim

/-- the operations of L have run -/
structure HeadInv [Glo] (base : Nat) (Xa : Nat → Prop) (w0 : W0) (st : St) (l : List HI) (prs : List (List Nat)) (L : Nat → Bool) (a : Act) (w : World) : Prop where
  clo : ∀ j, j < l.length → L j = true → ∀ k ∈ prs.getD j [], L k = true
  rel : Rel base Xa w0 (stS st L l) a w
/-- what is known of each operation of a segment -/
structure SegF [Glo] (P : Program) (opsA : List (Option Tmp)) (seg : List Oper) (prs : List (List Nat)) (st : St) (l : List HI) : Prop where
  low : ∀ (i : Nat) (o : Oper) (x : HI), seg[i]? = some o → l[i]? = some x → SF P opsA o (stS st (fun j => (prs.getD i []).contains j) l) x
  more : ∀ (i j : Nat) (o o' : Oper) (x y : HI), seg[i]? = some o → seg[j]? = some o' → l[i]? = some x → l[j]? = some y → isEff o.op = false → usesOb o.op = true → isEff o'.op = true → j ∉ prs.getD i [] → i ∉ prs.getD j [] →
    hstep P opsA o ⟨st.n, eT (fun k => (prs.getD i []).contains k) 0 l ++ st.tmp, y.nx, y.ob, st.pn⟩ (fun eff v _ _ => eff = false ∧ v = x.v)

section
variable {P : Program} {base : Nat} {Xa : Nat → Prop} {w0 : W0} {w w' : World} {st : St} {a : Act} {M M' : Mp}
theorem head_step [Glo] {opsA seg : List Oper} {prs : List (List Nat)} {l : List HI} {QC : Exit → Act → World → Prop} (hD : SegOk P st.n seg prs) (hl : l.length = seg.length)
    (hF : SegF P (slotsOf opsA) seg prs st l) (hnd : (l.filterMap (·.dst)).Nodup)
    {L : Nat → Bool} (hg : HeadInv base Xa w0 st l prs L a w) {i : Nat} {o : Oper} (ho : seg[i]? = some o) (hLi : L i = false) (hprL : ∀ j ∈ prs.getD i [], L j = true) :
    if Region.wanted o (yielded opsA.toArray a.tmps) = true then o.wp P a w (HeadInv base Xa w0 st l prs fun j => decide (j = i) || L j) QC else HeadInv base Xa w0 st l prs (fun j => decide (j = i) || L j) (a.put o.dst undef) w := by
  obtain ⟨g1, ⟨M, hM⟩⟩ := hg
  have hpr := hD.prlt
  have hil := (List.getElem?_eq_some_iff.1 ho).1
  obtain ⟨x, hx⟩ : ∃ x, l[i]? = some x := ⟨l[i]'(by omega), List.getElem?_eq_getElem (by omega)⟩
  have hsf := hF.low i o x ho hx
  have hdst := hsf.1
  have hsub : ∀ j, (prs.getD i []).contains j = true → L j = true := fun j hj => hprL j (by simpa using hj)
  have heffL : ∀ (j : Nat) (y : HI), l[j]? = some y → y.eff = true → x.eff = true → (i < j → L j = false) ∧ (j < i → j ∈ prs.getD i []) := fun j y hy hye hxe => by
    have hjl := (List.getElem?_eq_some_iff.1 hy).1
    obtain ⟨o', ho'⟩ : ∃ o', seg[j]? = some o' := ⟨seg[j]'(by omega), List.getElem?_eq_getElem _⟩
    have e1 := SF_isEff hsf hxe
    have e2 := SF_isEff (hF.low j o' y ho' hy) hye
    refine ⟨fun hij => ?_, fun hji => hD.chain i j o o' ho ho' e1 e2 hji⟩
    cases hLj : L j with
    | false => rfl
    | true =>
      have := g1 j (by omega) hLj i (hD.chain j i o' o ho' ho e2 e1 hij)
      rw [this] at hLi; cases hLi
  obtain ⟨s, hs1, hs2, hs3, hs4⟩ : ∃ s : St, SF P (slotsOf opsA) o s x ∧ s.tmp = eT (fun j => (prs.getD i []).contains j) 0 l ++ st.tmp ∧ s.ob = (stS st L l).ob ∧ s.nx = (stS st L l).nx := by
    rcases eO_cases L l 0 (st.ob, st.nx) with ⟨e, hno⟩ | ⟨j, y, hy, hye, hLj, hlast, e⟩
    · have e2 := eO_none (fun j => (prs.getD i []).contains j) l 0 (st.ob, st.nx) (fun j y hy he => by
        cases hc : (prs.getD i []).contains (0 + j) with
        | false => rfl
        | true => have := hsub _ hc; rw [hno j y hy he] at this; cases this)
      exact ⟨_, hsf, rfl, by simp only [stS, e, e2], by simp only [stS, e, e2]⟩
    · rw [Nat.zero_add] at hLj
      by_cases hji : j ∈ prs.getD i []
      · have e2 : eO (fun j => (prs.getD i []).contains j) 0 l (st.ob, st.nx) = (y.ob, y.nx) := eO_last (fun j => (prs.getD i []).contains j) (k := j) hye (by simpa using hji) l 0 _ (Nat.zero_le _) (by simpa using hy) (fun j' z hz hjj he => by
          rw [Nat.zero_add] at hjj ⊢
          cases hc : (prs.getD i []).contains j' with
          | false => rfl
          | true =>
            have h1 := hsub _ hc
            have h2 := hlast j' z hjj hz he
            rw [Nat.zero_add, h1] at h2; cases h2)
        exact ⟨_, hsf, rfl, by simp only [stS, e, e2], by simp only [stS, e, e2]⟩
      · have hij : i ∉ prs.getD j [] := fun hc => by
          have := g1 j (List.getElem?_eq_some_iff.1 hy).1 hLj i hc
          rw [this] at hLi; cases hLi
        have hxe : x.eff = false := by
          cases hxe : x.eff with
          | false => rfl
          | true =>
            exfalso
            obtain ⟨q1, q2⟩ := heffL j y hy hye hxe
            rcases Nat.lt_trichotomy i j with hc | hc | hc
            · rw [q1 hc] at hLj; cases hLj
            · subst hc; rw [hLi] at hLj; cases hLj
            · exact hji (q2 hc)
        have hjl := (List.getElem?_eq_some_iff.1 hy).1
        obtain ⟨o', ho'⟩ : ∃ o', seg[j]? = some o' := ⟨seg[j]'(by omega), List.getElem?_eq_getElem _⟩
        have hE := SF_notEff hsf hxe
        have hE' := SF_isEff (hF.low j o' y ho' hy) hye
        refine ⟨⟨st.n, eT (fun k => (prs.getD i []).contains k) 0 l ++ st.tmp, y.nx, y.ob, st.pn⟩, ⟨hdst, ?_⟩, rfl, by simp only [stS, e], by simp only [stS, e]⟩
        cases hu : usesOb o.op with
        | false => exact hstep_tmp (s := stS st (fun j => (prs.getD i []).contains j) l) hu hE rfl hsf.2
        | true =>
          refine hstep_mono (hF.more i j o o' x y ho ho' hx hy hE hu hE' hji hij) ?_
          rintro e v ob nx ⟨rfl, h2⟩
          exact ⟨hxe.symm, h2, fun h => by cases h⟩
  have hT : ∀ t, lkT s.tmp t = .poi ∨ lkT s.tmp t = lkT (stS st L l).tmp t := fun t => by
    rw [hs2]
    exact eT_sub _ _ st.tmp t l 0 (fun j _ hA => by rw [Nat.zero_add] at hA ⊢; exact hsub j hA)
  have hs := h_sound (ops := opsA.toArray) (QC := QC) (by simpa using hs1) hT hs3 hs4 (hD.ok o (List.mem_of_getElem? ho)) hM
  have hob' : (stS st (fun j => decide (j = i) || L j) l).ob = (bif x.eff then x.ob else (stS st L l).ob) ∧ (stS st (fun j => decide (j = i) || L j) l).nx = (bif x.eff then x.nx else (stS st L l).nx) := by
    cases hxe : x.eff with
    | false =>
      have : eO (fun j => decide (j = i) || L j) 0 l (st.ob, st.nx) = eO L 0 l (st.ob, st.nx) := eO_congr l l _ _ 0 _ rfl (fun j y y' hy hy' => by
        rw [hy] at hy'
        simp only [Option.some.injEq] at hy'
        subst hy'
        simp only [Nat.zero_add]
        refine ⟨?_, fun _ => ⟨trivial, trivial⟩⟩
        by_cases hji : j = i
        · subst hji; rw [hx] at hy; simp only [Option.some.injEq] at hy; subst hy; rw [hxe]; rfl
        · simp [hji])
      simp only [stS, this]
      exact ⟨rfl, rfl⟩
    | true =>
      have : eO (fun j => decide (j = i) || L j) 0 l (st.ob, st.nx) = (x.ob, x.nx) := eO_last (fun j => decide (j = i) || L j) (k := i) hxe (by simp) l 0 _ (Nat.zero_le _) (by simpa using hx) (fun j y hy hij hye => by
        rw [Nat.zero_add] at hij ⊢
        have := (heffL j y hy hye hxe).1 hij
        rw [this]; simp; omega)
      simp only [stS, this]
      exact ⟨rfl, rfl⟩
  have next : ∀ a' w', Nx base Xa w0 (stS st L l).n (fun st' => st' = (bif x.eff then { stS st L l with nx := x.nx, ob := x.ob } else stS st L l).put o.dst x.v) a' w' → HeadInv base Xa w0 st l prs (fun j => decide (j = i) || L j) a' w' := by
    rintro a' w' ⟨s', h1, rfl, M', hM'⟩
    have hrel : Rel base Xa w0 (stS st (fun j => decide (j = i) || L j) l) a' w' := by
      have hw := hM'.weakT (T := eT (fun j => decide (j = i) || L j) 0 l ++ st.tmp) (fun t => by
        have := eT_put L st.tmp t (k := i) (x := x) l 0 (Nat.zero_le _) (by simpa using hx) hnd
        refine this.imp (fun e => e) fun e => e.trans ?_
        rw [hdst]
        cases o.dst <;> cases x.eff <;> rfl)
      refine ⟨M', ?_⟩
      have e : ({ (bif x.eff then { stS st L l with nx := x.nx, ob := x.ob } else stS st L l).put o.dst x.v with tmp := eT (fun j => decide (j = i) || L j) 0 l ++ st.tmp } : St) = stS st (fun j => decide (j = i) || L j) l := by
        obtain ⟨q1, q2⟩ := hob'
        have : stS st (fun j => decide (j = i) || L j) l = ⟨st.n, eT (fun j => decide (j = i) || L j) 0 l ++ st.tmp, (stS st (fun j => decide (j = i) || L j) l).nx, (stS st (fun j => decide (j = i) || L j) l).ob, st.pn⟩ := rfl
        rw [this, q1, q2]
        cases o.dst <;> cases x.eff <;> rfl
      rw [e] at hw
      exact hw
    refine ⟨fun j hj hLj k hk => ?_, hrel⟩
    simp only [Bool.or_eq_true, decide_eq_true_eq] at hLj ⊢
    rcases hLj with rfl | hLj
    · exact .inr (hprL k hk)
    · exact .inr (g1 j hj hLj k hk)
  split
  · rename_i hw; rw [if_pos hw] at hs; exact oper_mono hs next
  · rename_i hw; rw [if_neg hw] at hs; exact next _ _ hs
end
end Go.Ab
