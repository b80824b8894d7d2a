/- Abstract states for walks, part 21: the rule for regions that draw their order. -/
import Derived.Test.YtnjpakhnaegdgaaAbT
namespace Go.Ab
open Go.RowKit

section
variable {P : Program} {base : Nat} {Xa : Nat → Prop} {w0 w w' : World} {st : St} {a : Act} {M M' : Mp} {X X' : Nat → Prop} {n n' : Nat}

/-- One operation ahead of the tail, from the state that knows more than it surely comes behind. -/
theorem h_sound {ops : Array Oper} {o : Oper} {s S : St} {x : HI} {QC : Exit → Act → World → Prop} (h : SF P ops.toList o s x) (hT : ∀ t, lkT s.tmp t = .poi ∨ lkT s.tmp t = lkT S.tmp t) (hO : ObLe s.ob S.ob)
    (heq : x.eff = true → s.ob = S.ob ∧ s.nx = S.nx) (hok : okO P S.n o = true) (hR : RelM base Xa w0 S a w M) :
    (if Region.wanted o (yielded ops a.tmps) = true then o.wp P a w (Nx base Xa w0 S.n (fun st' => st' = (bif x.eff then { S with nx := x.nx, ob := x.ob } else S).put o.dst x.v)) QC
      else Nx base Xa w0 S.n (fun st' => st' = (bif x.eff then { S with nx := x.nx, ob := x.ob } else S).put o.dst x.v) (a.put o.dst undef) w) ∧ (x.eff = true → ObLe S.ob x.ob) := by
  have hd : ∀ d, o.dst = some d → d < S.n := fun d hd => by
    unfold okO at hok
    simp only [hd, Bool.and_eq_true, decide_eq_true_eq] at hok
    exact hok.1
  have hcv : ∀ s d x, o.op = .convert s d x → (P.underlying s).isSome = true := fun s d x h => by
    unfold okO at hok
    simp only [h, Bool.and_eq_true] at hok
    exact hok.2
  have hX : RelX base s a w M (Xf base Xa w M S.ob) S.nx := ⟨fun t => by
      rcases hT t with e | e
      · rw [e]; exact .poi _ _
      · rw [e]; exact hR.tmps t, fun id b hb => by
      obtain ⟨fz, h1⟩ := hO id b hb
      obtain ⟨h2, h3⟩ := hR.obs id _ h1
      exact ⟨h2, h3.pos, h3.len, h3.row⟩⟩
  obtain ⟨_, h⟩ := h
  unfold hstep at h
  split at h
  · rename_i hg
    rw [if_pos (by simp [Region.wanted, hg])]
    split at h
    · rename_i p v hpv
      obtain ⟨hp, he, hv, _⟩ := h
      obtain ⟨u, h1, h2⟩ := pv_sound hpv hp hX hcv
      rw [← he, ← hv]
      exact ⟨wp_of_run h1 (Nx.of rfl (hR.put hd h2) rfl), fun h => by cases h⟩
    · have hx : x.eff = true := by
        obtain ⟨_, _, _, h', _⟩ := effV_ex h
        exact h'.1.symm
      obtain ⟨q1, q2⟩ := heq hx
      have := eff_sound (QC := QC) (x := x) (effV_mono h fun v ob nx ⟨h1, h2, h3⟩ => ⟨h2, h3 (h1.trans hx)⟩) hT q1 q2 hok hR
      rw [hx]
      exact ⟨this.1, fun _ => this.2⟩
  · rename_i j want hg
    split at h
    · rename_i d hj
      split at h
      · rename_i b hb
        have hb' : lkT S.tmp d = .bool b := by
          rcases hT d with e | e
          · rw [e] at hb; cases hb
          · rw [← e]; exact hb
        rw [wanted_of hg hj hb' hR]
        split at h
        · rename_i p v hpv
          obtain ⟨hp, he, hv, _⟩ := h
          rw [← he, ← hv]
          refine ⟨?_, fun h => by cases h⟩
          by_cases hbw : b = want
          · rw [if_pos (by simp [hbw])]
            obtain ⟨hp, hall⟩ := hp hbw
            obtain ⟨u, h1, h2⟩ := pv_sound hpv hp (fix_R hX _ hall) hcv
            exact wp_of_run h1 (Nx.of rfl (hR.put hd (.gd _ _ _ _ fun _ => h2)) rfl)
          · rw [if_neg (by simpa using hbw)]
            exact Nx.of rfl (hR.put hd (.gd _ _ _ _ fun h' => absurd (by simpa using h') hbw)) rfl
        · obtain ⟨_, h1, h2⟩ := h
          by_cases hbw : b = want
          · rw [if_pos (by simp [hbw])]
            have hx : x.eff = true := by
              obtain ⟨_, _, _, h', _⟩ := effV_ex (h1 hbw)
              exact h'.1.symm
            obtain ⟨q1, q2⟩ := heq hx
            have := eff_sound (QC := QC) (x := x) (effV_mono (h1 hbw) fun v ob nx ⟨h1, h2, h3⟩ => ⟨h2, h3 (h1.trans hx)⟩) hT q1 q2 hok hR
            rw [hx]
            exact ⟨this.1, fun _ => this.2⟩
          · rw [if_neg (by simpa using hbw)]
            obtain ⟨he, hv, hob⟩ := h2 (by cases b <;> cases want <;> first | rfl | exact absurd rfl hbw)
            have hx := he.symm
            obtain ⟨q1, q2⟩ := heq hx
            obtain ⟨r1, r2⟩ := hob rfl
            rw [hx, ← hv, ← r1, ← r2, q1, q2]
            exact ⟨Nx.of rfl (hR.put hd (.poi _ _)) rfl, fun _ => ObLe.refl _⟩
      · exact h.elim
    · exact h.elim

theorem eT_poi (A : Nat → Bool) (T : List (Nat × V)) (t : Nat) : ∀ (l : List HI) (i : Nat), (∀ j, j < l.length → A (i + j) = false) → lkT (eT A i l ++ T) t = .poi ∨ lkT (eT A i l ++ T) t = lkT T t
  | [], i, _ => .inr rfl
  | x :: l, i, h => by
    have ih := eT_poi A T t l (i + 1) (fun j hj => by
      have := h (j + 1) (by simpa using hj)
      rwa [show i + (j + 1) = i + 1 + j by omega] at this)
    have h0 := h 0 (by simp)
    simp only [Nat.add_zero] at h0
    simp only [eT, h0, cond_false]
    cases x.dst with
    | none => simpa using ih
    | some d =>
      simp only [List.cons_append, List.nil_append, lkT]
      split
      · exact .inl rfl
      · exact ih

/-- A REGION THAT DRAWS ITS ORDER: the first h operations in whatever order their edges allow, the others behind them. -/
theorem awp_draw {rid : Nat} {ops : List Oper} {Q : Exit → St → Prop} (h : Nat) (prs : List (List Nat)) (hck : drawOk P st.n ops h prs = true) (hv : drawV P ops prs st (opsV P ops (ops.drop h) (Q .normal)) (ops.take h) []) : awp P (.region rid ops.toArray true) Q st := by
  have hD := drawOk_of hck
  have hpr : ∀ i j, j ∈ prs.getD i [] → j < i := fun i j hj => by
    rcases Nat.lt_or_ge i ops.length with hi | hi
    · exact (hD.prlt i _ (List.getElem?_eq_getElem hi) j hj).1
    · rw [List.getD_eq_getElem?_getD, List.getElem?_eq_none (by have := hD.len.2; omega)] at hj; simp at hj
  obtain ⟨l, hl, hK, hF⟩ := drawV_ex hpr _ _ hv
  simp only [List.nil_append, List.length_nil, Nat.zero_add] at hK hF
  have hlh : l.length = h := by rw [hl, List.length_take]; exact Nat.min_eq_left hD.len.1
  have hF' : ∀ (i : Nat) (o : Oper) (x : HI), ops[i]? = some o → l[i]? = some x → SF P ops o (stS st (fun j => (prs.getD i []).contains j) l) x := fun i o x ho hx => by
    have hi := (List.getElem?_eq_some_iff.1 hx).1
    exact hF i o x (by rw [List.getElem?_take, if_pos (by omega)]; exact ho) hx
  have hnd : (l.filterMap (·.dst)).Nodup := by
    have : l.filterMap (·.dst) = (ops.take h).filterMap (·.dst) := by
      have e : l.map (·.dst) = (ops.take h).map (·.dst) := by
        apply List.ext_getElem?
        intro i
        rw [List.getElem?_map, List.getElem?_map]
        rcases Nat.lt_or_ge i h with hi | hi
        · have h1 : l[i]? = some (l[i]'(by omega)) := List.getElem?_eq_getElem (by omega)
          have h2 : (ops.take h)[i]? = some (ops[i]'(by have := hD.len.1; omega)) := by rw [List.getElem?_take, if_pos hi]; exact List.getElem?_eq_getElem _
          rw [h1, h2]
          simp only [Option.map_some]
          rw [(hF i _ _ h2 h1).1]
        · rw [List.getElem?_eq_none (by omega), List.getElem?_eq_none (by rw [List.length_take]; omega)]
          rfl
      have f : ∀ {α : Type} (l : List α) (g : α → Option Tmp), l.filterMap g = (l.map g).filterMap id := fun l g => by rw [List.filterMap_map]; rfl
      rw [f l, f (ops.take h), e]
    rw [this]; exact hD.nodup
  intro base Xa w0 a w hR
  refine wp_region_draw fun t => ?_
  have hsch : Region.schedule (P.follows .mixedOrders) ops.toArray t = Region.linearise .any ops.toArray t := by
    unfold Region.schedule
    rw [if_pos (by simp [hD.dep])]
  rw [hsch]
  have hsz : ops.toArray.size = ops.length := by simp
  have hget : ∀ (i : Nat) (o : Oper), ops.toArray[i]? = some o ↔ ops[i]? = some o := fun i o => by simp
  have hR' : Rel base Xa w0 st a { w with drawn := w.drawn + 1 } := by
    obtain ⟨M, hM⟩ := hR
    exact ⟨M, hM.world ⟨rfl, rfl, rfl, Nat.le_refl _, fun _ _ => rfl⟩⟩
  let Good : (Nat → Bool) → Act → World → Prop := fun L a w =>
    ((∀ j, j < ops.length → L j = true → ∀ k ∈ prs.getD j [], L k = true) ∧ (∀ j, h ≤ j → j < ops.length → L j = false) ∧ Rel base Xa w0 (stS st L l) a w ∧ ObLe st.ob (stS st L l).ob ∧
      ∀ j x, l[j]? = some x → x.eff = true → L j = true → ObLe x.ob (stS st L l).ob) ∨
    ∃ m, h ≤ m ∧ m ≤ ops.length ∧ (∀ j, j < ops.length → (L j = true ↔ j < m)) ∧ ∃ s, s.n = st.n ∧ opsV P ops (ops.drop m) (Q .normal) s ∧ Rel base Xa w0 s a w
  have hstS : ∀ (L L' : Nat → Bool), (∀ i, i < h → L i = L' i) → stS st L l = stS st L' l := fun L L' hLL => by
    simp only [stS]
    rw [eT_same L L' l 0 (fun j hj => by rw [Nat.zero_add]; exact hLL j (by omega)), eO_congr l l L L' 0 _ rfl (fun j x x' hx hx' => by
      rw [hx] at hx'
      simp only [Option.some.injEq] at hx'
      subst hx'
      rw [Nat.zero_add, hLL j (by have := (List.getElem?_eq_some_iff.1 hx).1; omega)]
      exact ⟨rfl, fun _ => ⟨rfl, rfl⟩⟩)]
  -- one step of the tail
  have tailStep : ∀ (L : Nat → Bool) (a : Act) (w : World) (m : Nat) (o : Oper) (s : St), h ≤ m → ops[m]? = some o → (∀ j, j < ops.length → (L j = true ↔ j < m)) → s.n = st.n → opsV P ops (ops.drop m) (Q .normal) s → Rel base Xa w0 s a w →
      if Region.wanted o (yielded ops.toArray a.tmps) = true then o.wp P a w (Good fun j => decide (j = m) || L j) (fun e a' w' => ∃ st', st'.n = st.n ∧ Q e st' ∧ Rel base Xa w0 st' a' w') else Good (fun j => decide (j = m) || L j) (a.put o.dst undef) w := by
    intro L a w m o s hm ho hL hn hops hrel
    obtain ⟨M, hM⟩ := hrel
    have hml := (List.getElem?_eq_some_iff.1 ho).1
    have hdrop : ops.drop m = o :: ops.drop (m + 1) := by
      rw [List.drop_eq_getElem_cons hml]
      congr 1
      exact (List.getElem?_eq_some_iff.1 ho).2
    rw [hdrop] at hops
    have hs := step_sound (ops := ops.toArray) (QC := fun e a' w' => ∃ st', st'.n = st.n ∧ Q e st' ∧ Rel base Xa w0 st' a' w') (K := opsV P ops (ops.drop (m + 1)) (Q .normal)) hops (by rw [hn]; exact hD.ok o (List.mem_of_getElem? ho)) hM
    have next : ∀ a' w', Nx base Xa w0 s.n (opsV P ops (ops.drop (m + 1)) (Q .normal)) a' w' → Good (fun j => decide (j = m) || L j) a' w' := fun a' w' ⟨s', h1, h2, h3⟩ =>
      .inr ⟨m + 1, by omega, hml, fun j hj => by
        have := hL j hj
        simp only [Bool.or_eq_true, decide_eq_true_eq]
        rw [this]; omega, s', h1.trans hn, h2, h3⟩
    split
    · rename_i hw; rw [if_pos hw] at hs; exact oper_mono hs next
    · rename_i hw; rw [if_neg hw] at hs; exact next _ _ hs
  unfold Region.linearise
  refine lin_sound (Q := fun e a' w' => ∃ st', st'.n = st.n ∧ Q e st' ∧ Rel base Xa w0 st' a' w') (fun i o ho e he => hD.acyc i o ((hget i o).1 ho) e he) Good ?_ ?_ ?_ ops.toArray.size t (Array.replicate ops.toArray.size false) a _ (by simp) (by simp only [hsz]; exact Nat.le_trans List.countP_le_length (by simp)) ?_
  · intro L L' a w hLL hg
    rw [hsz] at hLL
    rcases hg with ⟨g1, g2, g3, g4, g5⟩ | ⟨m, g1, g2, g3, g4⟩
    · have e := hstS L L' (fun i hi => hLL i (by have := hD.len.1; omega))
      rw [e] at g3 g4 g5
      refine .inl ⟨fun j hj hLj k hk => ?_, fun j hj hjl => by rw [← hLL j hjl]; exact g2 j hj hjl, g3, g4, fun j x hx he hLj => g5 j x hx he ?_⟩
      · have hkl := hpr j k hk
        rw [← hLL k (by omega)]
        exact g1 j hj (by rw [hLL j hj]; exact hLj) k hk
      · rw [hLL j (by have := (List.getElem?_eq_some_iff.1 hx).1; have := hD.len.1; omega)]; exact hLj
    · exact .inr ⟨m, g1, g2, fun j hj => by rw [← hLL j hj]; exact g3 j hj, g4⟩
  · intro L a w hg i o ho hLi hpre
    rw [hget] at ho
    have hil := (List.getElem?_eq_some_iff.1 ho).1
    have hbind : ∀ e ∈ o.after, L e.on = true := fun e he => hpre e he (by
      have := hD.dep
      unfold Region.departs at this
      rw [Array.any_eq_false'] at this
      have h1 := this o (by simpa using List.mem_of_getElem? ho)
      rw [Bool.not_eq_true, Array.any_eq_false'] at h1
      have h2 := h1 e he
      simpa using h2)
    rcases hg with ⟨g1, g2, ⟨M, hM⟩, g4, g5⟩ | ⟨m, g1, g2, g3, s, g4, g5, g6⟩
    · have hprL : ∀ j ∈ prs.getD i [], L j = true := fun j hj => by
        obtain ⟨_, e, he, hcase⟩ := hD.prlt i o ho j hj
        have hLe := hbind e he
        rcases hcase with rfl | hcase
        · exact hLe
        · have := hD.acyc i o ho e he
          exact g1 e.on (by omega) hLe j hcase
      rcases Nat.lt_or_ge i h with hih | hih
      · obtain ⟨x, hx⟩ : ∃ x, l[i]? = some x := ⟨l[i]'(by omega), List.getElem?_eq_getElem (by omega)⟩
        have hsf := hF' i o x ho hx
        have hdst := hsf.1
        have hT : ∀ t, lkT (stS st (fun j => (prs.getD i []).contains j) l).tmp t = .poi ∨ lkT (stS st (fun j => (prs.getD i []).contains j) l).tmp t = lkT (stS st L l).tmp t := fun t =>
          eT_sub _ _ st.tmp t l 0 (fun j _ hA => by rw [Nat.zero_add] at hA ⊢; exact hprL j (by simpa using hA))
        have hO : ObLe (stS st (fun j => (prs.getD i []).contains j) l).ob (stS st L l).ob := by
          rcases eO_mem (fun j => (prs.getD i []).contains j) l 0 (st.ob, st.nx) with e | ⟨j, y, h1, h2, h3, h4, _⟩
          · simp only [stS, e]; exact g4
          · rw [Nat.zero_add] at h3
            have := g5 j y h1 h2 (hprL j (by simpa using h3))
            simp only [stS, h4] at this ⊢
            exact this
        have heffL : ∀ (j : Nat) (y : HI), l[j]? = some y → y.eff = true → x.eff = true → (i < j → L j = false) ∧ (j < i → j ∈ prs.getD i []) := fun j y hy hye hxe => by
          have hjl := (List.getElem?_eq_some_iff.1 hy).1
          obtain ⟨o', ho'⟩ : ∃ o', ops[j]? = some o' := ⟨ops[j]'(by have := hD.len.1; omega), List.getElem?_eq_getElem _⟩
          have e1 := SF_isEff hsf hxe
          have e2 := SF_isEff (hF' j o' y ho' hy) hye
          refine ⟨fun hij => ?_, fun hji => hD.chain i j o o' ho ho' hih e1 e2 hji⟩
          cases hLj : L j with
          | false => rfl
          | true =>
            have := g1 j (by have := hD.len.1; omega) hLj i (hD.chain j i o' o ho' ho (by omega) e2 e1 hij)
            rw [this] at hLi; cases hLi
        have heq : x.eff = true → (stS st (fun j => (prs.getD i []).contains j) l).ob = (stS st L l).ob ∧ (stS st (fun j => (prs.getD i []).contains j) l).nx = (stS st L l).nx := fun hxe => by
          have : eO (fun j => (prs.getD i []).contains j) 0 l (st.ob, st.nx) = eO L 0 l (st.ob, st.nx) := eO_congr l l _ _ 0 _ rfl (fun j y y' hy hy' => by
            rw [hy] at hy'
            simp only [Option.some.injEq] at hy'
            subst hy'
            simp only [Nat.zero_add]
            refine ⟨?_, fun _ => ⟨trivial, trivial⟩⟩
            cases hye : y.eff with
            | false => rfl
            | true =>
              obtain ⟨q1, q2⟩ := heffL j y hy hye hxe
              simp only [Bool.true_and]
              rcases Nat.lt_trichotomy j i with hc | hc | hc
              · have := q2 hc
                rw [hprL j this]; simpa using this
              · subst hc
                rw [hLi]
                cases hcc : (prs.getD j []).contains j with
                | false => rfl
                | true => have := hpr j j (by simpa using hcc); omega
              · rw [q1 hc]
                cases hcc : (prs.getD i []).contains j with
                | false => rfl
                | true => have := hpr i j (by simpa using hcc); omega)
          simp only [stS, this]
          exact ⟨trivial, trivial⟩
        obtain ⟨hs, hle⟩ := h_sound (ops := ops.toArray) (QC := fun e a' w' => ∃ st', st'.n = st.n ∧ Q e st' ∧ Rel base Xa w0 st' a' w') (by simpa using hsf) hT hO heq (hD.ok o (List.mem_of_getElem? ho)) hM
        have hob' : (stS st (fun j => decide (j = i) || L j) l).ob = (bif x.eff then x.ob else (stS st L l).ob) ∧ (stS st (fun j => decide (j = i) || L j) l).nx = (bif x.eff then x.nx else (stS st L l).nx) := by
          cases hxe : x.eff with
          | false =>
            have : eO (fun j => decide (j = i) || L j) 0 l (st.ob, st.nx) = eO L 0 l (st.ob, st.nx) := eO_congr l l _ _ 0 _ rfl (fun j y y' hy hy' => by
              rw [hy] at hy'
              simp only [Option.some.injEq] at hy'
              subst hy'
              simp only [Nat.zero_add]
              refine ⟨?_, fun _ => ⟨trivial, trivial⟩⟩
              by_cases hji : j = i
              · subst hji; rw [hx] at hy; simp only [Option.some.injEq] at hy; subst hy; rw [hxe]; rfl
              · simp [hji])
            simp only [stS, this]
            exact ⟨rfl, rfl⟩
          | true =>
            have : eO (fun j => decide (j = i) || L j) 0 l (st.ob, st.nx) = (x.ob, x.nx) := eO_last (fun j => decide (j = i) || L j) (k := i) hxe (by simp) l 0 _ (Nat.zero_le _) (by simpa using hx) (fun j y hy hij hye => by
              rw [Nat.zero_add] at hij ⊢
              have := (heffL j y hy hye hxe).1 hij
              rw [this]; simp; omega)
            simp only [stS, this]
            exact ⟨rfl, rfl⟩
        have next : ∀ a' w', Nx base Xa w0 (stS st L l).n (fun st' => st' = (bif x.eff then { stS st L l with nx := x.nx, ob := x.ob } else stS st L l).put o.dst x.v) a' w' → Good (fun j => decide (j = i) || L j) a' w' := by
          rintro a' w' ⟨s', h1, rfl, M', hM'⟩
          have hrel : Rel base Xa w0 (stS st (fun j => decide (j = i) || L j) l) a' w' := by
            have hw := hM'.weakT (T := eT (fun j => decide (j = i) || L j) 0 l ++ st.tmp) (fun t => by
              have := eT_put L st.tmp t (k := i) (x := x) l 0 (Nat.zero_le _) (by simpa using hx) hnd
              refine this.imp (fun e => e) fun e => e.trans ?_
              rw [hdst]
              cases o.dst <;> cases x.eff <;> rfl)
            refine ⟨M', ?_⟩
            have e : ({ (bif x.eff then { stS st L l with nx := x.nx, ob := x.ob } else stS st L l).put o.dst x.v with tmp := eT (fun j => decide (j = i) || L j) 0 l ++ st.tmp } : St) = stS st (fun j => decide (j = i) || L j) l := by
              obtain ⟨q1, q2⟩ := hob'
              have : stS st (fun j => decide (j = i) || L j) l = ⟨st.n, eT (fun j => decide (j = i) || L j) 0 l ++ st.tmp, (stS st (fun j => decide (j = i) || L j) l).nx, (stS st (fun j => decide (j = i) || L j) l).ob⟩ := rfl
              rw [this, q1, q2]
              cases o.dst <;> cases x.eff <;> rfl
            rw [e] at hw
            exact hw
          have hmono : ObLe (stS st L l).ob (stS st (fun j => decide (j = i) || L j) l).ob := by
            rw [hob'.1]
            cases hxe : x.eff with
            | false => exact ObLe.refl _
            | true => exact hle hxe
          refine .inl ⟨fun j hj hLj k hk => ?_, fun j hj hjl => ?_, hrel, g4.trans hmono, fun j y hy hye hLj => ?_⟩
          · simp only [Bool.or_eq_true, decide_eq_true_eq] at hLj ⊢
            rcases hLj with rfl | hLj
            · exact .inr (hprL k hk)
            · exact .inr (g1 j hj hLj k hk)
          · simp only [Bool.or_eq_false_iff, decide_eq_false_iff_not]
            exact ⟨by omega, g2 j hj hjl⟩
          · simp only [Bool.or_eq_true, decide_eq_true_eq] at hLj
            rcases hLj with rfl | hLj
            · rw [hx] at hy; simp only [Option.some.injEq] at hy; subst hy
              rw [hob'.1, hye]; exact ObLe.refl _
            · exact (g5 j y hy hye hLj).trans hmono
        split
        · rename_i hw; rw [if_pos hw] at hs; exact oper_mono hs next
        · rename_i hw; rw [if_neg hw] at hs; exact next _ _ hs
      · have hall : ∀ j, j < i → L j = true := fun j hj => hprL j (hD.tail i o ho hih j hj)
        have hieq : i = h := by
          rcases Nat.lt_or_ge h i with hc | hc
          · have := hall h hc
            rw [g2 h (Nat.le_refl _) (by omega)] at this; cases this
          · omega
        subst hieq
        have e := hstS L (fun _ => true) (fun j hj => hall j hj)
        rw [e] at hM
        exact tailStep L a w i o (stS st (fun _ => true) l) (Nat.le_refl _) ho (fun j hj => ⟨(fun hLj => by
          rcases Nat.lt_or_ge j i with hc | hc
          · exact hc
          · rw [g2 j hc hj] at hLj; cases hLj), fun hj' => hall j hj'⟩) rfl hK ⟨M, hM⟩
    · have him : i = m := by
        have h1 : ¬ i < m := fun hc => by rw [(g3 i hil).2 hc] at hLi; cases hLi
        rcases Nat.lt_or_ge m i with hc | hc
        · exfalso
          have hm := hD.tail i o ho (by omega) m hc
          obtain ⟨_, e, he, hcase⟩ := hD.prlt i o ho m hm
          have hLe := (g3 e.on (by have := hD.acyc i o ho e he; omega)).1 (hbind e he)
          rcases hcase with h' | h'
          · omega
          · have := hpr e.on m h'; omega
        · omega
      subst him
      exact tailStep L a w i o s g1 ho g3 g4 g5 g6
  · intro L a w hg hall
    rw [hsz] at hall
    rcases hg with ⟨_, g2, g3, _, _⟩ | ⟨m, g1, g2, g3, s, g4, g5, g6⟩
    · have hh : h = ops.length := by
        have := hD.len.1
        rcases Nat.lt_or_ge h ops.length with hc | hc
        · have h1 := g2 h (Nat.le_refl _) hc
          rw [hall h hc] at h1; cases h1
        · omega
      have e := hstS L (fun _ => true) (fun j hj => hall j (by omega))
      rw [e] at g3
      refine ⟨stS st (fun _ => true) l, rfl, ?_, g3⟩
      rw [List.drop_eq_nil_of_le (by omega)] at hK
      exact hK
    · have hm : m = ops.length := by
        rcases Nat.lt_or_ge m ops.length with hc | hc
        · have := (g3 m hc).1 (hall m hc); omega
        · omega
      subst hm
      rw [List.drop_eq_nil_of_le (Nat.le_refl _)] at g5
      exact ⟨s, g4, g5, g6⟩
  · have hfalse : ∀ j, (Array.replicate ops.toArray.size false).getD j true = true → ops.length ≤ j := fun j hj => by
      rcases Nat.lt_or_ge j ops.length with hc | hc
      · simp [Array.getD, hc] at hj
      · exact hc
    have e0 : eO (fun i => (Array.replicate ops.toArray.size false).getD i true) 0 l (st.ob, st.nx) = (st.ob, st.nx) := by
      rcases eO_mem (fun i => (Array.replicate ops.toArray.size false).getD i true) l 0 (st.ob, st.nx) with e | ⟨j, y, h1, _, h3, _⟩
      · exact e
      · rw [Nat.zero_add] at h3
        have := hfalse j h3
        have := (List.getElem?_eq_some_iff.1 h1).1
        have := hD.len.1
        omega
    refine .inl ⟨fun j hj hLj => absurd (hfalse j hLj) (by omega), fun j hj hjl => ?_, ?_, ?_, fun j x hx _ hLj => ?_⟩
    · simp [Array.getD, hjl]
    · obtain ⟨M, hM⟩ := hR'
      have hw := hM.weakT (T := eT (fun i => (Array.replicate ops.toArray.size false).getD i true) 0 l ++ st.tmp) (fun t => by
        have := eT_poi (fun i => (Array.replicate ops.toArray.size false).getD i true) st.tmp t l 0 (fun j hj => by
          rw [Nat.zero_add]
          have : j < ops.length := by have := hD.len.1; omega
          simp [Array.getD, this])
        exact this)
      refine ⟨M, ?_⟩
      simp only [stS, e0]
      exact hw
    · simp only [stS, e0]; exact ObLe.refl _
    · have := hfalse j hLj
      have := (List.getElem?_eq_some_iff.1 hx).1
      have := hD.len.1
      omega
end
end Go.Ab
