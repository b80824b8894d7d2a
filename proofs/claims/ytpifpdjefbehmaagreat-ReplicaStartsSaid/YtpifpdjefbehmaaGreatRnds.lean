/- A loop, its rounds one by one; cells of boxes said in other ways. -/
import Derived.Test.YtpifpdjefbehmaaGreatL4
import Derived.LoopN
namespace Go.Ab
open Go.RowKit
def arounds [Glo] (P : Program) (c : Code) (Q : Exit → St → Prop) : Nat → St → Prop
  | 0, _ => False
  | n + 1, st => awp P c (thn (arounds P c Q n) Q) st
theorem arounds_ok [Glo] {P : Program} {c : Code} {Q : Exit → St → Prop} {base : Nat} {Xa : Nat → Prop} {w0 : W0} {N : Nat} : ∀ (n : Nat) (st : St) (a : Act) (w : World), st.n = N → arounds P c Q n st → Rel base Xa w0 st a w →
    Code.rounds P c (fun e a' w' => ∃ st', st'.n = N ∧ Q e st' ∧ Rel base Xa w0 st' a' w') n a w
  | 0, _, _, _, _, h, _ => h.elim
  | n + 1, st, a, w, hn, h, hR => by
    rw [rounds_succ]
    refine wp_mono (h base Xa w0 a w hR) fun e a' w' ⟨s, h1, h2, h3⟩ => ?_
    cases e with
    | normal => exact arounds_ok n s a' w' (h1.trans hn) h2 h3
    | _ => exact ⟨s, h1.trans hn, h2, h3⟩
theorem awp_rounds [Glo] {P : Program} {c : Code} {Q : Exit → St → Prop} {st : St} (n : Nat) (h : arounds P c Q n st) : awp P (.loop c) Q st := fun _ _ _ a w hR => wp_loop_rounds n (arounds_ok n st a w rfl h hR)
theorem arounds_step [Glo] {P : Program} {c : Code} {Q : Exit → St → Prop} {st : St} {n : Nat} (h : ∀ K : St → Prop, (∀ s, arounds P c Q n s → K s) → awp P c (thn K Q) st) : arounds P c Q (n + 1) st := h _ fun _ h => h
end Go.Ab
namespace Go.Ab
open Go.RowKit
/-- a box's cells said in another way -/
theorem RelM.cells [Glo] {base : Nat} {Xa : Nat → Prop} {w0 : W0} {st : St} {a : Act} {w : World} {M : Mp} (hM : RelM base Xa w0 st a w M) (id : Nat) {o : Ob} {cs : List V} (cs' : List V) (ho : lookO st.ob id = some o) (hx : o.xs = [cs]) (hlen : cs'.length = cs.length)
    (hc : ∀ (j : Nat) (u : V), cs'[j]? = some u → ∃ u', cs[j]? = some u' ∧ ∀ v, R M w (Xf base Xa w M st.ob) (if o.box then st.nx else 0) u' v → R M w (Xf base Xa w M st.ob) (if o.box then st.nx else 0) u v) :
    RelM base Xa w0 { st with ob := (id, some { o with xs := [cs'] }) :: st.ob } a w M := by
  have hX : ∀ b, Xf base Xa w M st.ob b → Xf base Xa w M ((id, some { o with xs := [cs'] }) :: st.ob) b := fun b hb => ⟨hb.1, fun i o1 ho1 hf => by
    simp only [lookO] at ho1
    split at ho1
    · rename_i e; subst e
      simp only [Option.some.injEq] at ho1
      subst ho1
      exact hb.2 _ o ho hf
    · exact hb.2 i o1 ho1 hf⟩
  refine ⟨hM.below, hM.hbase, hM.xa, fun m n v u hv => (hM.gh m n v u hv).mono (Nat.le_refl _) (fun _ _ => rfl) hX (fun _ _ => rfl), hM.pin, hM.defers.mono hX (fun _ _ => rfl), hM.size, fun t => (hM.tmps t).mono (Nat.le_refl _) (fun _ _ => rfl) hX (fun _ _ => rfl), fun i o1 ho1 => ?_, fun i i' o1 o2 g h1 h2 hne hg => ?_⟩
  · simp only [lookO] at ho1
    split at ho1
    · rename_i e; subst e
      simp only [Option.some.injEq] at ho1
      subst ho1
      obtain ⟨q1, q2⟩ := hM.obs _ o ho
      obtain ⟨vals, hrow, hone, hr⟩ := q2.row
      refine ⟨q1, q2.pos, fun x hx' => ?_, vals, by simpa [hx] using hrow, hone, fun j u hu => ?_⟩
      · simp only [List.mem_singleton] at hx'
        subst hx'
        have := q2.len cs (by rw [hx]; simp)
        rw [hlen]; exact this
      · simp only [List.flatten_cons, List.flatten_nil, List.append_nil] at hu
        obtain ⟨u', e, hw'⟩ := hc j u hu
        exact (hw' _ (hr j u' (by rw [hx]; simpa using e))).mono (Nat.le_refl _) (fun _ _ => rfl) hX (fun _ _ => rfl)
    · obtain ⟨q1, q2⟩ := hM.obs i o1 ho1
      exact ⟨q1, q2.mono (Nat.le_refl _) (fun _ _ => rfl) hX (fun _ _ => rfl) (fun _ _ => rfl)⟩
  · have hl : ∀ i o1, lookO ((id, some { o with xs := [cs'] }) :: st.ob) i = some o1 → ∃ o2, lookO st.ob i = some o2 := fun i o1 h1 => by
      simp only [lookO] at h1
      split at h1
      · rename_i e; subst e; exact ⟨o, ho⟩
      · exact ⟨o1, h1⟩
    obtain ⟨p1, r1⟩ := hl i o1 h1
    obtain ⟨p2, r2⟩ := hl i' o2 h2
    exact hM.dist i i' p1 p2 g r1 r2 hne hg
/-- a nil slice in a box's cell as a row of the call's own -/
theorem awp_nilCell [Glo] {P : Program} {c : Code} {Q : Exit → St → Prop} {st : St} (id j e s : Nat) (hs : 0 < s) {o : Ob} {cs : List V} {tt : Bool} (ho : lookO st.ob id = some o) (hx : o.xs = [cs]) (hbox : o.box = true) (hj : cs[j]? = some (.sl 0 tt []))
    (h : awp P c Q { st with nx := st.nx + 1, ob := (id, some { o with xs := [cs.set j (.own st.nx)] }) :: (st.nx, some ⟨e, s, false, false, []⟩) :: st.ob }) : awp P c Q st := fun base Xa w0 a w ⟨M, hM⟩ => by
  obtain ⟨M', hM', hn, hR⟩ := hM.grow (ob1 := st.ob) (fun _ _ h => h) none (fun _ _ h => by cases h) (fun _ _ _ _ _ h => by cases h) (fun _ h => by cases h) (World.grownBy.refl w none) (.slice none 0 0) (fun g h => by cases h)
    ⟨e, s, false, false, []⟩ (fun _ => hs) (by simp) [] (World.ownsG_nil w base e s) (by simp) (fun j u h => by simp at h)
  have hid := (hM.obs _ o ho).1
  refine h base Xa w0 a w ⟨M', hR.cells id (cs.set j (.own st.nx)) (o := o) (cs := cs) (by simp only [lookO]; rw [if_neg (by omega)]; exact ho) hx (by simp) fun i u hu => ?_⟩
  by_cases e' : j = i
  · subst e'
    rw [List.getElem?_set_self (by exact (List.getElem?_eq_some_iff.1 hj).1)] at hu
    simp only [Option.some.injEq] at hu
    subst hu
    refine ⟨_, hj, fun v hv => ?_⟩
    obtain ⟨A, c', f, hu, _, _, _, hnil, _⟩ := R_sl hv
    obtain ⟨rfl, rfl⟩ := hnil rfl
    rw [hu, hbox]
    exact .own _ _ _ _ _ (by simp) hn
  · rw [List.getElem?_set_ne e'] at hu
    exact ⟨u, hu, fun v hv => hv⟩
/-- nothing more is said of a box's cells -/
theorem awp_poiB [Glo] {P : Program} {c : Code} {Q : Exit → St → Prop} {st : St} (id : Nat) {o : Ob} {cs : List V} (ho : lookO st.ob id = some o) (hx : o.xs = [cs])
    (h : awp P c Q { st with ob := (id, some { o with xs := [cs.map fun _ => .poi] }) :: st.ob }) : awp P c Q st := fun base Xa w0 a w ⟨M, hM⟩ =>
  h base Xa w0 a w ⟨M, hM.cells id (cs.map fun _ => .poi) ho hx (by simp) fun j u hu => by
    rw [List.getElem?_map] at hu
    cases e : cs[j]? with
    | none => rw [e] at hu; cases hu
    | some u' =>
      rw [e] at hu
      simp only [Option.map_some, Option.some.injEq] at hu
      subst hu
      exact ⟨u', rfl, fun v _ => .poi _ _⟩⟩
/-- the beginning of a row, as a row of its own -/
theorem awp_partT [Glo] {P : Program} {c : Code} {Q : Exit → St → Prop} {st : St} (t id : Nat) {sz k : Nat} {o : Ob} (ht : lkT st.tmp t = .part id sz 0 k) (ho : lookO st.ob id = some o) (hbox : o.box = false) (hf : o.fz = false) (hk : k ≤ o.xs.length)
    (h : awp P c Q { st with nx := st.nx + 1, tmp := (t, .own st.nx) :: st.tmp, ob := (st.nx, some ⟨o.ety, o.sz, false, false, o.xs.take k⟩) :: (id, none) :: st.ob }) : awp P c Q st := fun base Xa w0 a w ⟨M, hM⟩ => by
  have hv := hM.tmps t
  rw [ht] at hv
  obtain ⟨g, N, cap, hMv, hl, hse⟩ := R_part hv
  obtain ⟨_, hok⟩ := hM.obs id o ho
  obtain ⟨vals, hrow, hv1, hvr⟩ := hok.row
  simp only [hbox, Bool.false_eq_true, if_false] at hvr
  rw [hMv] at hrow
  have hN : N = o.xs.length := by
    rcases hrow.sl ⟨_, _, _, rfl⟩ with ⟨hnil, _⟩ | ⟨g', cap', cur, hval, _⟩
    · simp at hnil
    · simp only [Value.slice.injEq] at hval; exact hval.2.1
  subst hN
  have hlen := hok.len
  obtain ⟨cur, hbg, hg, hnc, hcm, hcs, htake⟩ := hrow.row
  have hse' : a.tmps.getD t undef = .slice (some ⟨g, 0, none⟩) k cap := by rw [hse]; simp
  have hown' : w.ownsG base o.ety o.sz (.slice (some ⟨g, 0, none⟩) k cap) k (vals.take (k * o.sz)) := by
    refine ⟨by rw [List.length_take, hrow.1]; exact Nat.min_eq_left (Nat.mul_le_mul_right _ (by omega)), .inr (.inl ⟨g, cap, cur, rfl, hbg, hg, by omega, hcm, hcs, ?_⟩)⟩
    rw [← htake, List.take_take, Nat.min_eq_left (Nat.mul_le_mul_right _ (by omega))]
  obtain ⟨M', hM', hn, hR⟩ := hM.grow (ob1 := (id, none) :: st.ob) (fun i o' ho' => by simp only [lookO] at ho'; split at ho' <;> simp_all) (some g)
    (fun b hx' e => hx'.2 id o ho hf (by rw [hMv]; simpa [Value.ownB] using e.symm)) (fun i o' ho' g' hg' e => by
      simp only [lookO] at ho'
      split at ho'
      · simp at ho'
      · rename_i hne; exact hM.dist i id o' o g' ho' ho hne hg' (by rw [hMv, e]; rfl)) (fun g' hg' => by simp at hg'; omega) (World.grownBy.refl w _) (.slice (some ⟨g, 0, none⟩) k cap) (fun g' hg' => by
      simp only [Value.ownB, Option.some.injEq] at hg'; exact .inl (by rw [hg'])) ⟨o.ety, o.sz, false, false, o.xs.take k⟩ (fun _ => hok.pos hbox) (fun y hy => hlen y (List.mem_of_mem_take hy)) (vals.take (k * o.sz)) (by simpa [Nat.min_eq_left hk] using hown') (fun u hu => hv1 u (List.mem_of_mem_take hu)) (fun j v hj => by
      have hq := flat_part o.xs hlen (lo := 0) (len := k)
      simp only [List.drop_zero, Nat.zero_mul] at hq
      rw [hq, List.getElem?_take] at hj
      split at hj
      · rename_i hjl
        rw [List.getD_eq_getElem?_getD, List.getElem?_take, if_pos hjl, ← List.getD_eq_getElem?_getD]
        exact hvr j v hj
      · cases hj)
  have := h base Xa w0 a w ⟨M', hR.below, hR.hbase, hR.xa, hR.gh, hR.pin, hR.defers, hR.size, fun t' => by
    simp only [lkT]
    split
    · rename_i e'; subst e'; rw [hse']; exact .own _ _ _ _ _ (by simp) hn
    · exact hR.tmps t', hR.obs, hR.dist⟩
  exact this
end Go.Ab
