/- Abstract states for walks, part 17: a walk gives a contract. -/
import Derived.Test.YtjlbpkokdlggiaaDoorAbP
namespace Go.Ab
open Go.RowKit

section
variable {P : Program} {base : Nat} {Xa : Nat → Prop} {w0 : W0} {w w' : World} {st : St} {a : Act} {M M' : Mp} {X X' : Nat → Prop} {n n' : Nat}

theorem opnT_R [Glo] {M' : Mp} {N : Nat} : ∀ (vs : List V) (us : List Value) (n : Nat), vs.length = us.length → (∀ (j : Nat) (v : V), vs[j]? = some v → R M w X n' v (us.getD j undef)) → (∀ v ∈ vs, (boxC v).isSome = true) →
    (∀ (j : Nat) (c : V), (vs.flatMap V.cells)[j]? = some c → R M' w X' N (opn1 (n + j) (cls1 st.ob c)) ((us.flatMap (·.cells.toList)).getD j undef)) →
    ∀ (j : Nat) (u : V), (opnT n (vs.map (clsC st.ob)))[j]? = some u → R M' w X' N u (us.getD j undef)
  | [], us, n, hl, hr, hb, H, j, u, hu => by simp [opnT] at hu
  | v :: vs, [], n, hl, _, _, _, _, _, _ => by simp at hl
  | v :: vs, x :: us, n, hl, hr, hb, H, j, u, hu => by
    have hv := hr 0 v rfl
    simp only [List.getD_cons_zero] at hv
    have hsz : v.cells.length = x.cells.toList.length := by
      obtain ⟨cs, hcs⟩ := Option.isSome_iff_exists.1 (hb v (List.mem_cons_self ..))
      have : cs = v.cells := by cases v <;> simp [boxC] at hcs <;> simp [V.cells, hcs]
      subst this
      exact (boxC_R hcs hv).len
    simp only [List.map_cons, opnT] at hu
    cases j with
    | zero =>
      simp only [List.getElem?_cons_zero, Option.some.injEq] at hu
      subst hu
      simp only [List.getD_cons_zero]
      cases v with
      | st cs =>
        simp only [clsC, opnC]
        cases hv with
        | st _ _ arr hlen h1 hh =>
          refine .st _ _ _ ?_ h1 fun j c hc => ?_
          · have : ∀ (l : List V) (k : Nat), (opnL k l).length = l.length := by
              intro l; induction l with
              | nil => intro k; rfl
              | cons a l ih => intro k; simp [opnL, ih]
            rw [this]; simpa using hlen
          · rw [opnL_get, List.getElem?_map] at hc
            obtain ⟨c1, hc1, rfl⟩ := Option.map_eq_some_iff.1 hc
            obtain ⟨c2, hc2, rfl⟩ := Option.map_eq_some_iff.1 hc1
            have hj := (List.getElem?_eq_some_iff.1 hc2).1
            have := H j c2 (by simp only [List.flatMap_cons, V.cells]; rw [List.getElem?_append_left hj]; exact hc2)
            simp only [List.flatMap_cons, Value.cells] at this
            rw [List.getD_eq_getElem?_getD, List.getElem?_append_left (by simp; omega)] at this
            simpa [Array.getD_eq_getD_getElem?] using this
      | _ =>
        have := H 0 _ (by simp only [List.flatMap_cons, V.cells]; rfl)
        have hx : x.cells.toList = [x] := by cases hv <;> first | rfl | simp [boxC] at hb
        simp only [List.flatMap_cons, hx, Nat.add_zero, List.singleton_append, List.getD_cons_zero] at this
        simp only [clsC]
        rw [(cls1_one st.ob _).2.1]
        exact this
    | succ j =>
      simp only [List.getElem?_cons_succ, clsC_cells, List.length_map] at hu
      have := opnT_R (M' := M') (N := N) vs us (n + v.cells.length) (by simpa using hl) (fun j v hv => hr (j + 1) v (by simpa using hv)) (fun v hv => hb v (List.mem_cons_of_mem _ hv)) (fun j c hc => by
        have := H (v.cells.length + j) c (by simp only [List.flatMap_cons]; rw [List.getElem?_append_right (by omega), Nat.add_sub_cancel_left]; exact hc)
        simp only [List.flatMap_cons] at this
        rw [List.getD_eq_getElem?_getD, List.getElem?_append_right (by omega), ← List.getD_eq_getElem?_getD, show v.cells.length + j - x.cells.toList.length = j by omega, ← Nat.add_assoc] at this
        exact this) j u hu
      simpa using this

theorem box_notTup [Glo] {v : V} {u : Value} (h : (boxC v).isSome = true) (hr : R M w X n v u) : v.fcells = v.cells ∧ vcells u = u.cells.toList ∧ (∀ ob, clsR ob v = clsC ob v) ∧ ∀ ob k, opn k (clsC ob v) = opnC k (clsC ob v) := by
  have key : ∀ ob k, opn k (clsC ob v) = opnC k (clsC ob v) := fun ob k => by
    cases v with
    | st cs => rfl
    | _ => simp only [clsC]; rw [(cls1_one ob _).2.2.2, (cls1_one ob _).2.1]
  cases v with
  | poi => simp [boxC] at h
  | tup vs => simp [boxC] at h
  | new a b c => simp [boxC] at h
  | newm a b c => simp [boxC] at h
  | gd a b => simp [boxC] at h
  | _ => exact ⟨rfl, by cases hr <;> rfl, fun _ => rfl, key⟩

theorem ret_Res [Glo] (hR : RelM base Xa w0 st a w M) {vs : List V} {us : List Value} (hl : us.length = vs.length) (hr : ∀ (j : Nat) (v : V), vs[j]? = some v → R M w (Xf base Xa w M st.ob) st.nx v (us.getD j undef))
    (hb : ∀ v ∈ vs, (boxC v).isSome = true) (hnd : (liveIds st.ob (vs.flatMap V.cells)).Nodup) : Res base Xa w (clsR st.ob (mkRes vs)) (if h : us.length = 1 then us[0] else .tuple us.toArray) := by
  have hC := Cs.flat vs us hl.symm hb hr
  have hshape : (mkRes vs).fcells = vs.flatMap V.cells ∧ vcells (if h : us.length = 1 then us[0] else .tuple us.toArray) = us.flatMap (·.cells.toList) := by
    match vs, us, hl with
    | [], [], _ => exact ⟨rfl, rfl⟩
    | [v], [u], _ =>
      obtain ⟨h1, h2, _⟩ := box_notTup (hb v (by simp)) (hr 0 v rfl)
      simp only [List.getD_cons_zero] at h2
      exact ⟨by simpa [mkRes] using h1, by simpa using h2⟩
    | v :: v' :: vs, u :: u' :: us, _ => exact ⟨rfl, by simp [vcells]⟩
  intro M' n hM'
  rw [clsR_fcells, hshape.1, hshape.2, List.length_map] at hM'
  rw [clsR_fcells, hshape.1]
  generalize hCC : vs.flatMap V.cells = C at *
  generalize hUU : us.flatMap (·.cells.toList) = U at *
  have hnew : ∀ id o, lookO (obsL n (C.map (cls1 st.ob))) id = some o → ∃ j id0 o0, id = n + j ∧ j < C.length ∧ (C[j]? = some (.own id0) ∨ C[j]? = some (.omap id0)) ∧ lookO st.ob id0 = some o0 ∧ o0.box = false ∧ o0.fz = false ∧ o = ⟨o0.ety, o0.sz, false, false, o0.xs⟩ ∧ M' id = M id0 := fun id o ho => by
    obtain ⟨j, e, s, xs, rfl, hj, rfl⟩ := obsL_some _ _ _ _ ho
    rw [List.getElem?_map] at hj
    obtain ⟨c, hc, hcc⟩ : ∃ c, C[j]? = some c ∧ (cls1 st.ob c = .new e s xs ∨ cls1 st.ob c = .newm e s xs) := by
      rcases hj with hj | hj <;> obtain ⟨c, hc, hcc⟩ := Option.map_eq_some_iff.1 hj
      · exact ⟨c, hc, .inl hcc⟩
      · exact ⟨c, hc, .inr hcc⟩
    have hjl := (List.getElem?_eq_some_iff.1 hc).1
    rcases cls1_cases st.ob c with ⟨id0, o0, h1, h2, h3, ⟨rfl, h4⟩ | ⟨rfl, h4⟩⟩ | ⟨h, _⟩
    · rw [h4] at hcc
      rcases hcc with hcc | hcc <;> cases hcc
      refine ⟨j, id0, o0, rfl, hjl, .inl hc, h1, h2, h3, rfl, ?_⟩
      rw [hM' j hjl]
      exact (R_own (hC.rel j _ hc)).2.symm
    · rw [h4] at hcc
      rcases hcc with hcc | hcc <;> cases hcc
      refine ⟨j, id0, o0, rfl, hjl, .inr hc, h1, h2, h3, rfl, ?_⟩
      rw [hM' j hjl]
      have := hC.rel j _ hc
      revert this
      generalize U.getD j undef = u
      intro this
      cases this with
      | omap _ _ g _ hv => exact hv.symm
    · rw [h] at hcc
      rcases hcc with hcc | hcc
      · exact absurd hcc ((pur1_one st.ob c).2.2.1 e s xs).1
      · exact absurd hcc ((pur1_one st.ob c).2.2.1 e s xs).2
  have hX : ∀ b, Xf base Xa w M st.ob b → Xf base Xa w M' (obsL n (C.map (cls1 st.ob))) b := fun b hx => ⟨hx.1, fun id o ho _ => by
    obtain ⟨j, id0, o0, _, _, _, h1, _, h3, _, h5⟩ := hnew id o ho
    rw [h5]; exact hx.2 id0 o0 h1 h3⟩
  have hcell : ∀ (j : Nat) (c : V), C[j]? = some c → R M' w (Xf base Xa w M' (obsL n (C.map (cls1 st.ob)))) (n + (C.map (cls1 st.ob)).length) (opn1 (n + j) (cls1 st.ob c)) (U.getD j undef) := fun j c hc => by
    have hjl := (List.getElem?_eq_some_iff.1 hc).1
    have hrc := hC.rel j c hc
    rcases cls1_cases st.ob c with ⟨id0, o0, h1, h2, h3, ⟨rfl, h4⟩ | ⟨rfl, h4⟩⟩ | ⟨h, h'⟩
    rotate_left
    · rw [h4]
      have hm := hM' j hjl
      simp only [opn1]
      have : ∀ {u}, R M w (Xf base Xa w M st.ob) st.nx (.omap id0) u → ∃ g, u = .map (some g) := fun h => by cases h; exact ⟨_, rfl⟩
      obtain ⟨g, e⟩ := this hrc
      rw [e] at hm ⊢
      exact .omap _ _ _ (by rw [List.length_map]; omega) hm
    rotate_left
    · rw [h4]
      have hm := hM' j hjl
      simp only [opn1]
      have : ∀ {u}, R M w (Xf base Xa w M st.ob) st.nx (.own id0) u → ∃ A l c, u = .slice A l c := fun h => by cases h; exact ⟨_, _, _, rfl⟩
      obtain ⟨A, l, c, e⟩ := this hrc
      rw [e] at hm ⊢
      exact .own _ _ _ _ _ (by rw [List.length_map]; omega) hm
    · rw [h, (pur1_one st.ob c).2.1]
      refine R.up (pur1_R (base := base) hrc (fun id o ho => (hR.obs id o ho).2) hX fun id o g e ho hg => ?_)
      obtain ⟨vals, hrow, _⟩ := (hR.obs id o ho).2.row
      refine ⟨.inr (hrow.lt g hg), fun id' o' ho' _ => ?_⟩
      obtain ⟨j', id0, o0, _, _, _, q1, q2, q3, _, q5⟩ := hnew id' o' ho'
      rw [q5]
      refine hR.dist id id0 o o0 g ho q1 (fun e' => ?_) hg
      subst e'
      rw [ho] at q1
      simp only [Option.some.injEq] at q1
      subst q1
      rcases h' id o e ho with h'' | h''
      · rw [h''] at q2; cases q2
      · rw [h''] at q3; cases q3
  have hT := opnT_R (st := st) (M' := M') (N := n + (C.map (cls1 st.ob)).length) (X' := Xf base Xa w M' (obsL n (C.map (cls1 st.ob)))) vs us n hl.symm hr hb (by rw [hCC, hUU]; exact hcell)
  refine ⟨?_, fun id o ho => ?_, ?_⟩
  · match vs, us, hl, hT, hr, hb with
    | [v], [u], _, hT, hr, hb =>
      obtain ⟨_, _, h3, h4⟩ := box_notTup (hb v (by simp)) (hr 0 v rfl)
      have := hT 0 (opnC n (clsC st.ob v)) rfl
      simp only [mkRes, h3, h4]
      simpa using this
    | [], [], _, hT, _, _ => exact .tup _ _ _ rfl (fun j u hu => by simp [opnT] at hu)
    | v :: v' :: vs, u :: u' :: us, hl, hT, _, _ =>
      refine .tup _ _ _ ?_ fun j x hx => ?_
      · have : ∀ (l : List V) (k : Nat), (opnT k l).length = l.length := by
          intro l; induction l with
          | nil => intro k; rfl
          | cons a l ih => intro k; simp [opnT, ih]
        rw [this]; simp at hl ⊢; omega
      · have := hT j x hx
        simpa [Array.getD_eq_getD_getElem?, List.getD_eq_getElem?_getD] using this
  · obtain ⟨j, id0, o0, rfl, hjl, hc, h1, h2, h3, rfl, h5⟩ := hnew id o ho
    obtain ⟨_, hok⟩ := hR.obs id0 o0 h1
    obtain ⟨vals, hrow, hv1, hvr⟩ := hok.row
    rw [h5]
    refine ⟨fun _ => hok.pos h2, hok.len, vals, hrow, hv1, fun j u hu => ?_⟩
    have := hvr j u hu
    simp only [h2, Bool.false_eq_true, if_false] at this ⊢
    exact this.mono (Nat.le_refl _) (fun _ h => absurd h (by omega)) hX (fun _ _ => rfl)
  · intro id id' o o' g h1 h2 hne hg
    obtain ⟨j, id0, o0, rfl, _, hc, q1, q2, q3, _, q5⟩ := hnew id o h1
    obtain ⟨j', id0', o0', rfl, _, hc', q1', q2', q3', _, q5'⟩ := hnew id' o' h2
    rw [q5] at hg
    rw [q5']
    refine hR.dist id0 id0' o0 o0' g q1 q1' (fun e => ?_) hg
    subst e
    exact hne (by rw [live_inj st.ob C hnd j j' id0 o0 hc hc' q1 q2 q3])

def argT : Nat → List V → List (Nat × V)
  | _, [] => []
  | n, v :: r => (n, v) :: argT (n + 1) r
theorem lkT_argT : ∀ (vs : List V) (n t : Nat), lkT (argT n vs) t = if n ≤ t ∧ t < n + vs.length then vs.getD (t - n) .poi else .poi
  | [], n, t => by simp [argT, lkT]
  | v :: r, n, t => by
    simp only [argT, lkT, List.length_cons]
    split
    · rename_i e; subst e; rw [if_pos (by omega), Nat.sub_self]; rfl
    · rename_i e
      rw [lkT_argT r]
      by_cases h : n + 1 ≤ t ∧ t < n + 1 + r.length
      · rw [if_pos h, if_pos (by omega), show t - n = (t - (n + 1)) + 1 by omega]; rfl
      · rw [if_neg h, if_neg (by omega)]

/-- THE STATE AT A FUNCTION's HEAD. -/
def St.start (ntmps : Nat) (args : List V) : St := ⟨ntmps, argT 0 args, 0, [], 0⟩

/-- A WALK GIVES A CONTRACT. -/
theorem Meets.of [Glo] {f : FuncId} {fn : Func} {c : Code} {args : List V} {r : V} (hf : P.funcs[f]? = some fn) (hb : fn.body = some c) (hname : (fn.name == "runtime.NumGoroutine") = false) (hble : Nat.ble args.length fn.ntmps = true)
    (h : awp P c (retQ P fn.results.toList r) (St.start fn.ntmps args)) : Meets P f args r := by
  have hlen : args.length ≤ fn.ntmps := Nat.le_of_ble_eq_true hble
  refine ⟨by simp [callable, hf, hb, hname], fun w Xa vals M hXa hsz hargs => calls_of_wp hf hb ?_⟩
  have hR : Rel w.heap.size Xa (W0.of w) (St.start fn.ntmps args) { tmps := vals ++ Array.replicate (fn.ntmps - vals.size) undef, defers := [] } w := by
    refine ⟨M, Below.refl _ _, Nat.le_refl _, hXa, (fun _ _ _ _ h => h.elim), ⟨Nat.le_refl _, fun i hi => absurd hi (Nat.not_lt_zero _)⟩, rfl, by simp [St.start]; omega, fun t => ?_, fun id o ho => by simp [St.start, lookO] at ho, fun id id' o o' g ho => by simp [St.start, lookO] at ho⟩
    simp only [St.start, lkT_argT, Nat.zero_le, true_and, Nat.zero_add, Nat.sub_zero]
    split
    · rename_i ht
      have hv : args[t]? = some (args.getD t .poi) := by rw [List.getD_eq_getElem?_getD, List.getElem?_eq_getElem ht]; rfl
      have := hargs t _ hv
      have e : (vals ++ Array.replicate (fn.ntmps - vals.size) undef).getD t undef = vals.getD t undef := by
        simp only [Array.getD_eq_getD_getElem?]
        rw [Array.getElem?_append_left (by omega)]
      rw [e]
      exact this.mono (Nat.le_refl _) (fun _ h => absurd h (by omega)) (fun b hx => ⟨.inl hx, fun id o ho => by simp [lookO] at ho⟩) (fun _ _ => rfl)
    · exact .poi _ _
  refine wp_mono (h _ _ _ _ _ hR) fun e a' w' ⟨st', _, hq, M', hR'⟩ => ?_
  have fin : retQ P fn.results.toList r .ret st' → a'.defers = [] ∧ ∃ v, (results fn a'.tmps).run P w' = .ok v w' ∧ ∃ val, Ending.returned v = .returned val ∧ Below w.heap.size w w' ∧ Res w.heap.size Xa w' r val := fun hq => by
    simp only [retQ] at hq
    split at hq
    · rename_i p vs hret
      obtain ⟨hp, hbx, hnd, hwk⟩ := hq
      obtain ⟨us, hl, hrun, hr⟩ := results_run (P := P) (fn := fn) hR' hret hp
      exact ⟨hR'.defers, _, hrun, _, rfl, hR'.below, (ret_Res hR' hl hr (fun v hv => List.all_eq_true.1 hbx v hv) hnd).wk hwk⟩
    · exact hq.elim
  cases e with
  | normal => exact fin hq
  | ret => exact fin hq
  | _ => exact hq.elim
end
section
variable {P : Program}
/-- the state at the head of a function that may write what its caller owns -/
def St.startI (ntmps : Nat) (args : List V) (nx : Nat) (ob : List (Nat × Option Ob)) : St := ⟨ntmps, argT 0 args, nx, ob, nx⟩
def retI [Glo] (P : Program) (rs : List ResultVar) (pn : Nat) (Post : V → Nat → List (Nat × Option Ob) → Prop) : Exit → St → Prop
  | .normal, st | .ret, st => match retL P st rs with
    | some (p, vs) => p ∧ st.pn = pn ∧ Post (mkRes vs) st.nx st.ob
    | none => False
  | _, _ => False
theorem InlC.of [Glo] {f : FuncId} {fn : Func} {c : Code} {args : List V} {nx : Nat} {ob : List (Nat × Option Ob)} {Post : V → Nat → List (Nat × Option Ob) → Prop} (hf : P.funcs[f]? = some fn) (hb : fn.body = some c)
    (hname : (fn.name == "runtime.NumGoroutine") = false) (hble : Nat.ble args.length fn.ntmps = true) (h : awp P c (retI P fn.results.toList nx Post) (St.startI fn.ntmps args nx ob)) : InlC P f args nx ob Post := by
  have hlen : args.length ≤ fn.ntmps := Nat.le_of_ble_eq_true hble
  refine ⟨by simp [callable, hf, hb, hname], fun base Xa w0 w M vals h0 hsz hargs => calls_of_wp hf hb ?_⟩
  have hR : Rel base Xa w0 (St.startI fn.ntmps args nx ob) { tmps := vals ++ Array.replicate (fn.ntmps - vals.size) undef, defers := [] } w := by
    refine ⟨M, h0.below, h0.hbase, h0.xa, h0.gh, h0.pin, rfl, by simp [St.startI]; omega, fun t => ?_, h0.obs, h0.dist⟩
    simp only [St.startI, lkT_argT, Nat.zero_le, true_and, Nat.zero_add, Nat.sub_zero]
    split
    · rename_i ht
      have hv : args[t]? = some (args.getD t .poi) := by rw [List.getD_eq_getElem?_getD, List.getElem?_eq_getElem ht]; rfl
      have := hargs t _ hv
      have e : (vals ++ Array.replicate (fn.ntmps - vals.size) undef).getD t undef = vals.getD t undef := by
        simp only [Array.getD_eq_getD_getElem?]
        rw [Array.getElem?_append_left (by omega)]
      rw [e]
      exact this
    · exact .poi _ _
  refine wp_mono (h _ _ _ _ _ hR) fun e a' w' ⟨st', _, hq, M', hR'⟩ => ?_
  have fin : retI P fn.results.toList nx Post .ret st' → a'.defers = [] ∧ ∃ v, (results fn a'.tmps).run P w' = .ok v w' ∧ ∃ val r nx' ob' M', Ending.returned v = .returned val ∧ Post r nx' ob' ∧ RelM base Xa w0 ⟨0, [], nx', ob', nx⟩ ⟨#[], []⟩ w' M' ∧ R M' w' (Xf base Xa w' M' ob') nx' r val := fun hq => by
    simp only [retI] at hq
    split at hq
    · rename_i p vs hret
      obtain ⟨hp, hpn, hpost⟩ := hq
      obtain ⟨us, hl, hrun, hr⟩ := results_run (P := P) (fn := fn) hR' hret hp
      refine ⟨hR'.defers, _, hrun, _, mkRes vs, st'.nx, st'.ob, M', rfl, hpost, ⟨hR'.below, hR'.hbase, hR'.xa, hR'.gh, by rw [← hpn]; exact hR'.pin, rfl, rfl, fun t => by simp only [lkT]; exact .poi _ _, hR'.obs, hR'.dist⟩, ?_⟩
      match vs, us, hl, hr with
      | [v], [u], _, hr => simpa [mkRes] using hr 0 v rfl
      | [], [], _, _ => exact .tup _ _ _ rfl (fun j u hu => by simp at hu)
      | v :: v' :: vs, u :: u' :: us, hl, hr =>
        refine .tup _ _ _ (by simp at hl ⊢; omega) fun j x hx => ?_
        have := hr j x hx
        simpa [Array.getD_eq_getD_getElem?, List.getD_eq_getElem?_getD] using this
    · exact hq.elim
  cases e with
  | normal => exact fin hq
  | ret => exact fin hq
  | _ => exact hq.elim
end
theorem plE_arr [Glo] {P : Program} {t len k : Nat} {ag : Bool} (h : arE P t = some (len, k, ag)) (i : Nat) : plE P t i = some (i * k, k) := by
  obtain ⟨e, hu, ht⟩ := ar_parts h
  obtain ⟨inf, hi, hs⟩ := ty_size ht
  simp [plE, hu, hi, hs]
end Go.Ab
