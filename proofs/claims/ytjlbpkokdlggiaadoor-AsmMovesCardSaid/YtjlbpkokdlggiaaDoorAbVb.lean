/- Abstract states for walks, part 26: the rules for regions that draw their order, segment by segment; regions whose order departs. -/
import Derived.Test.YtjlbpkokdlggiaaDoorAbVa
namespace Go.Ab
open Go.RowKit

section
variable {P : Program} {st : St}
theorem mem_of_idx {R l1 l2 : List Nat} {x y : Nat} (h : R = l1 ++ y :: l2) (hx : R.idxOf x < R.idxOf y) : x ∈ l1 := by
  subst h
  have h1 : (l1 ++ y :: l2).idxOf y ≤ l1.length := by
    rw [List.idxOf_append]
    split
    · rename_i hm; exact Nat.le_of_lt (List.idxOf_lt_length_of_mem hm)
    · simp
  have h2 : (l1 ++ y :: l2).idxOf x < l1.length := by omega
  rw [List.idxOf_append] at h2
  split at h2
  · rename_i hm; exact hm
  · omega
theorem plan_list [Glo] {ops : List Oper} {K : St → Prop} {QC : Exit → Act → World → Prop} {base : Nat} {Xa : Nat → Prop} {w0 : W0} (m : Region.Mode) (ex : List (Nat × Nat)) (ord : List Nat) (pa : List (List Nat)) (segs : List (Nat × List (List Nat) × List (Nat × Nat)))
    (hck : planOk P st.n ops m ex ord pa segs = true) (hv : segsL P (slotsOf ops) segs (permL ops ord) K st) (hQ : ∀ s a w, s.n = st.n → K s → Rel base Xa w0 s a w → QC .normal a w) {R : List Nat}
    (hE : LinExt ops.toArray m (fun i => (Array.replicate ops.toArray.size false).getD i true) R) (hex : ∀ q ∈ ex, R.idxOf q.1 < R.idxOf q.2) {a : Act} {w : World} (hR : Rel base Xa w0 st a w) :
    wpOps P ops.toArray QC R a w := by
  simp only [planOk, Bool.and_eq_true, decide_eq_true_eq, List.all_eq_true, List.mem_range] at hck
  obtain ⟨⟨⟨⟨⟨⟨⟨c1, c2⟩, c3⟩, c4⟩, c5⟩, c6⟩, c7⟩, c8⟩ := hck
  have hsz : ops.toArray.size = ops.length := by simp
  have hget : ∀ (i : Nat) (o : Oper), ops.toArray[i]? = some o ↔ ops[i]? = some o := fun i o => by simp
  have hmem : ∀ i, i < ops.length → i ∈ ord := fun i hi => by simpa using c5 i hi
  have hpos : ∀ i, i < ops.length → ord.idxOf i < ops.length := fun i hi => by rw [← c2]; exact List.idxOf_lt_length_of_mem (hmem i hi)
  have hat : ∀ i, i < ops.length → ord.getD (ord.idxOf i) 0 = i := fun i hi => by
    have hlt := List.idxOf_lt_length_of_mem (hmem i hi)
    rw [List.getD_eq_getElem?_getD, List.getElem?_eq_getElem hlt]
    exact List.getElem_idxOf hlt
  have hlt : ∀ k, k < ops.length → ord.getD k 0 < ops.length := fun k hk => by
    rw [List.getD_eq_getElem?_getD, List.getElem?_eq_getElem (by omega)]
    exact c4 _ (List.getElem_mem _)
  have hidx : ∀ k, k < ops.length → ord.idxOf (ord.getD k 0) = k := fun k hk => by
    rw [List.getD_eq_getElem?_getD, List.getElem?_eq_getElem (by omega)]
    exact c3.idxOf_getElem k (by omega)
  have hperm : ∀ k o, k < ops.length → ops[ord.getD k 0]? = some o → (permL ops ord)[k]? = some o := fun k o hk ho => by
    have e : ord[k]? = some (ord.getD k 0) := by rw [List.getD_eq_getElem?_getD, List.getElem?_eq_getElem (by omega)]; rfl
    simp only [permL, List.getElem?_map, e, Option.map_some]
    rw [List.getD_eq_getElem?_getD, ho]; rfl
  have htN : (permL ops ord).length = ops.length := by simp [permL, c2]
  have hokt : ∀ o ∈ permL ops ord, okO P st.n o = true := fun o ho => by
    simp only [permL, List.mem_map] at ho
    obtain ⟨i, hi, rfl⟩ := ho
    have := c4 i hi
    rw [List.getD_eq_getElem?_getD, List.getElem?_eq_getElem this]
    exact c1 _ (List.getElem_mem _)
  let pre : Nat → Nat → Prop := fun j i => (∃ o e, ops[i]? = some o ∧ e ∈ o.after ∧ Region.binds m e = true ∧ e.on = j) ∨ (j, i) ∈ ex
  have hedge : ∀ i o, ops[i]? = some o → ∀ j ∈ pa.getD (ord.idxOf i) [], ∃ j', pre j' i ∧ j' < ops.length ∧ (ord.idxOf j' = j ∨ j ∈ pa.getD (ord.idxOf j') []) := fun i o ho j hj => by
    have hi := (List.getElem?_eq_some_iff.1 ho).1
    have := c7 (ord.idxOf i) (hpos i hi)
    rw [hat i hi, ho] at this
    simp only [Bool.and_eq_true, List.all_eq_true, Bool.or_eq_true, decide_eq_true_eq, Bool.not_eq_true', List.any_eq_true] at this
    obtain ⟨_, h⟩ := this.2 j hj
    rcases h with ⟨e, he, hb, hc⟩ | ⟨q, hq, ⟨h1, h2⟩, hc⟩
    · refine ⟨e.on, .inl ⟨o, e, ho, by simpa using he, hb, rfl⟩, ?_, hc.imp id (by simp)⟩
      rcases this.1 e he with h | h
      · rw [hb] at h; cases h
      · exact h.1
    · exact ⟨q.1, .inr (by rw [← h1]; exact hq), h2, hc.imp id (by simp)⟩
  let Good : (Nat → Bool) → Act → World → Prop := fun L a w => (∀ k, k < ops.length → L (ord.getD k 0) = true → ∀ j ∈ pa.getD k [], L (ord.getD j 0) = true) ∧ Run P base Xa w0 st.n ops (permL ops ord) ops.length pa K (fun k => L (ord.getD k 0)) a w
  have hpaN : ∀ k j, j ∈ pa.getD k [] → k < ops.length ∧ j < k := fun k j hj => by
    have hk : k < ops.length := by
      rcases Nat.lt_or_ge k ops.length with h | h
      · exact h
      · rw [List.getD_eq_getElem?_getD, List.getElem?_eq_none (by omega)] at hj; simp at hj
    refine ⟨hk, ?_⟩
    have := c7 k hk
    split at this
    · simp at this
    · simp only [Bool.and_eq_true, List.all_eq_true, decide_eq_true_eq] at this
      exact (this.2 j hj).1
  refine list_sound pre Good ?_ ?_ R (fun i => (Array.replicate ops.toArray.size false).getD i true) a w hE.mem hE.nodup hE.all (fun l1 i l2 h j hj => ?_) ?_
  · intro L a w hg i o ho hLi hpre
    rw [hget] at ho
    have hi := (List.getElem?_eq_some_iff.1 ho).1
    have hk := hpos i hi
    have hpa : ∀ j ∈ pa.getD (ord.idxOf i) [], L (ord.getD j 0) = true := fun j hj => by
      obtain ⟨j', hp, heN, hc⟩ := hedge i o ho j hj
      have hLe := hpre j' hp
      rcases hc with rfl | hc
      · rw [hat j' heN]; exact hLe
      · exact hg.1 _ (hpos _ heN) (by rw [hat j' heN]; exact hLe) j hc
    have hst := Run.step (QC := QC) htN hokt hg.2 (k := ord.idxOf i) (hperm _ o hk (by rw [hat i hi]; exact ho)) (by simp only [hat i hi]; exact hLi) hpa
    have next : ∀ a' w', Run P base Xa w0 st.n ops (permL ops ord) ops.length pa K (fun k => decide (k = ord.idxOf i) || L (ord.getD k 0)) a' w' → Good (fun j => decide (j = i) || L j) a' w' := fun a' w' hr => by
      refine ⟨fun k hk' hLk j hj => ?_, hr.congr fun k hk' => ?_⟩
      · simp only [Bool.or_eq_true, decide_eq_true_eq] at hLk ⊢
        rcases hLk with h | h
        · have : k = ord.idxOf i := by rw [← h, hidx k hk']
          subst this
          exact .inr (hpa j hj)
        · exact .inr (hg.1 k hk' h j hj)
      · congr 1
        refine decide_eq_decide.2 ⟨fun h => ?_, fun h => ?_⟩
        · rw [h]; exact hat i hi
        · rw [← h, hidx k hk']
    split
    · rename_i hw; rw [if_pos hw] at hst; exact oper_mono hst next
    · rename_i hw; rw [if_neg hw] at hst; exact next _ _ hst
  · intro L a w hg hall
    rw [hsz] at hall
    obtain ⟨s, h1, h2, h3⟩ := hg.2.done fun j hj => hall _ (hlt j hj)
    exact hQ s a w h1 h2 h3
  · rcases hj with ⟨o, e, ho, he, hb, rfl⟩ | hq
    · exact hE.pre l1 i l2 h o ((hget i o).2 ho) e he hb
    · exact .inr (mem_of_idx h (hex _ hq))
  · have hfalse : ∀ k, k < ops.length → (Array.replicate ops.toArray.size false).getD (ord.getD k 0) true = false := fun k hk => by
      have := hlt k hk
      generalize ord.getD k 0 = i at this ⊢
      simp [Array.getD, this]
    refine ⟨fun k hk hLk => (by have := hfalse k hk; simp only [this] at hLk; cases hLk), .at_ 0 segs c8 (fun j hj => absurd hj (by omega)) (fun j _ hj => hfalse j hj) st rfl hv hR⟩

theorem plan_ext [Glo] {ops : List Oper} {m : Region.Mode} {n : Nat} {ex : List (Nat × Nat)} {ord : List Nat} {pa : List (List Nat)} {segs : List (Nat × List (List Nat) × List (Nat × Nat))} (hck : planOk P n ops m ex ord pa segs = true) (t : Nat) :
    LinExt ops.toArray m (fun i => (Array.replicate ops.toArray.size false).getD i true) (Region.linearise m ops.toArray t) := by
  simp only [planOk, Bool.and_eq_true, decide_eq_true_eq, List.all_eq_true, List.mem_range] at hck
  obtain ⟨⟨⟨⟨⟨⟨⟨c1, c2⟩, c3⟩, c4⟩, c5⟩, c6⟩, c7⟩, c8⟩ := hck
  refine lin_ext m (fun i => ord.idxOf i) (fun i o ho e he hb => ?_) _ t _ (by simp) (Nat.le_trans List.countP_le_length (by simp))
  have ho' : ops[i]? = some o := by simpa using ho
  have hi := (List.getElem?_eq_some_iff.1 ho').1
  have hm : i ∈ ord := by simpa using c5 i hi
  have hlt := List.idxOf_lt_length_of_mem hm
  have hat : ord.getD (ord.idxOf i) 0 = i := by
    rw [List.getD_eq_getElem?_getD, List.getElem?_eq_getElem hlt]
    exact List.getElem_idxOf hlt
  have := c7 (ord.idxOf i) (by omega)
  rw [hat, ho'] at this
  simp only [Bool.and_eq_true, List.all_eq_true, Bool.or_eq_true, decide_eq_true_eq, Bool.not_eq_true'] at this
  rcases this.1 e (by simpa using he) with h | h
  · rw [hb] at h; cases h
  · exact ⟨by simpa using h.1, h.2⟩
theorem plan_lin [Glo] {ops : List Oper} {K : St → Prop} {QC : Exit → Act → World → Prop} {base : Nat} {Xa : Nat → Prop} {w0 : W0} (m : Region.Mode) (ord : List Nat) (pa : List (List Nat)) (segs : List (Nat × List (List Nat) × List (Nat × Nat)))
    (hck : planOk P st.n ops m [] ord pa segs = true) (hv : segsL P (slotsOf ops) segs (permL ops ord) K st) (hQ : ∀ s a w, s.n = st.n → K s → Rel base Xa w0 s a w → QC .normal a w) (t : Nat) {a : Act} {w : World} (hR : Rel base Xa w0 st a w) :
    wpOps P ops.toArray QC (Region.linearise m ops.toArray t) a w := plan_list m [] ord pa segs hck hv hQ (plan_ext hck t) (by simp) hR

/-- Plans by cases: which of two operations comes first. -/
inductive PT where
  | leaf (ord : List Nat) (pa : List (List Nat)) (segs : List (Nat × List (List Nat) × List (Nat × Nat)))
  | node (x y : Nat) (l r : PT)
def PT.ok (P : Program) (n : Nat) (ops : List Oper) (m : Region.Mode) : List (Nat × Nat) → PT → Bool
  | ex, .leaf ord pa segs => planOk P n ops m ex ord pa segs
  | ex, .node x y l r => decide (x < ops.length) && decide (y < ops.length) && decide (x ≠ y) && PT.ok P n ops m ((x, y) :: ex) l && PT.ok P n ops m ((y, x) :: ex) r
def PT.run [Glo] (P : Program) (ops : List Oper) (K : St → Prop) (st : St) : PT → Prop
  | .leaf ord _ segs => segsL P (slotsOf ops) segs (permL ops ord) K st
  | .node _ _ l r => PT.run P ops K st l ∧ PT.run P ops K st r
theorem PT.ext [Glo] {ops : List Oper} {m : Region.Mode} {n : Nat} (t : Nat) : ∀ (T : PT) (ex : List (Nat × Nat)), PT.ok P n ops m ex T = true → LinExt ops.toArray m (fun i => (Array.replicate ops.toArray.size false).getD i true) (Region.linearise m ops.toArray t)
  | .leaf ord pa segs, ex, h => plan_ext h t
  | .node x y l r, ex, h => by
    simp only [PT.ok, Bool.and_eq_true] at h
    exact PT.ext t l _ h.1.2
theorem tree_lin [Glo] {ops : List Oper} {K : St → Prop} {QC : Exit → Act → World → Prop} {base : Nat} {Xa : Nat → Prop} {w0 : W0} (m : Region.Mode) (hQ : ∀ s a w, s.n = st.n → K s → Rel base Xa w0 s a w → QC .normal a w) {R : List Nat}
    (hE : LinExt ops.toArray m (fun i => (Array.replicate ops.toArray.size false).getD i true) R) {a : Act} {w : World} (hR : Rel base Xa w0 st a w) :
    ∀ (T : PT) (ex : List (Nat × Nat)), PT.ok P st.n ops m ex T = true → PT.run P ops K st T → (∀ q ∈ ex, R.idxOf q.1 < R.idxOf q.2) → wpOps P ops.toArray QC R a w
  | .leaf ord pa segs, ex, h, hv, hex => plan_list m ex ord pa segs h hv hQ hE hex hR
  | .node x y l r, ex, h, hv, hex => by
    simp only [PT.ok, Bool.and_eq_true, decide_eq_true_eq] at h
    obtain ⟨⟨⟨⟨h1, h2⟩, h3⟩, h4⟩, h5⟩ := h
    have hx : x ∈ R := hE.all x (by simpa using h1) (by simp [Array.getD, h1])
    have hy : y ∈ R := hE.all y (by simpa using h2) (by simp [Array.getD, h2])
    have hxi := List.getElem_idxOf (List.idxOf_lt_length_of_mem hx)
    have hyi := List.getElem_idxOf (List.idxOf_lt_length_of_mem hy)
    rcases Nat.lt_trichotomy (R.idxOf x) (R.idxOf y) with hc | hc | hc
    · exact tree_lin m hQ hE hR l _ h4 hv.1 (by simpa using ⟨hc, fun a b hab => hex (a, b) hab⟩)
    · exfalso; apply h3; rw [← hxi, ← hyi]; simp only [hc]
    · exact tree_lin m hQ hE hR r _ h5 hv.2 (by simpa using ⟨hc, fun a b hab => hex (a, b) hab⟩)

theorem awp_plan [Glo] {rid : Nat} {ops : List Oper} {Q : Exit → St → Prop} (ord : List Nat) (pa : List (List Nat)) (segs : List (Nat × List (List Nat) × List (Nat × Nat))) (hd : (P.follows .mixedOrders || !(Region.departs ops.toArray)) = true)
    (hck : planOk P st.n ops .any [] ord pa segs = true) (hv : segsL P (slotsOf ops) segs (permL ops ord) (Q .normal) st) : awp P (.region rid ops.toArray true) Q st := by
  intro base Xa w0 a w hR
  refine wp_region_draw fun t => ?_
  have hsch : Region.schedule (P.follows .mixedOrders) ops.toArray t = Region.linearise .any ops.toArray t := by
    unfold Region.schedule
    rw [if_pos hd]
  rw [hsch]
  have hR' : Rel base Xa w0 st a { w with drawn := w.drawn + 1 } := by
    obtain ⟨M, hM⟩ := hR
    exact ⟨M, hM.world ⟨rfl, rfl, rfl, Nat.le_refl _, fun _ _ => rfl⟩⟩
  exact plan_lin .any ord pa segs hck hv (fun s a w h1 h2 h3 => ⟨s, h1, h2, h3⟩) t hR'

theorem awp_planI [Glo] {rid : Nat} {ops : List Oper} {Q : Exit → St → Prop} (ord : List Nat) (pa : List (List Nat)) (segs : List (Nat × List (List Nat) × List (Nat × Nat))) (hd : (P.follows .mixedOrders || !(Region.departs ops.toArray)) = true) (hp : permL ops ord = ops)
    (hck : planOk P st.n ops .any [] ord pa segs = true) (hv : segsL P (slotsOf ops) segs ops (Q .normal) st) : awp P (.region rid ops.toArray true) Q st := awp_plan ord pa segs hd hck (by rw [hp]; exact hv)
theorem awp_tree [Glo] {rid : Nat} {ops : List Oper} {Q : Exit → St → Prop} (T : PT) (hd : (P.follows .mixedOrders || !(Region.departs ops.toArray)) = true)
    (hck : PT.ok P st.n ops .any [] T = true) (hv : PT.run P ops (Q .normal) st T) : awp P (.region rid ops.toArray true) Q st := by
  intro base Xa w0 a w hR
  refine wp_region_draw fun t => ?_
  have hsch : Region.schedule (P.follows .mixedOrders) ops.toArray t = Region.linearise .any ops.toArray t := by
    unfold Region.schedule
    rw [if_pos hd]
  rw [hsch]
  have hR' : Rel base Xa w0 st a { w with drawn := w.drawn + 1 } := by
    obtain ⟨M, hM⟩ := hR
    exact ⟨M, hM.world ⟨rfl, rfl, rfl, Nat.le_refl _, fun _ _ => rfl⟩⟩
  exact tree_lin .any (fun s a w h1 h2 h3 => ⟨s, h1, h2, h3⟩) (PT.ext t T [] hck) hR' T [] hck hv (by simp)
@[simp] theorem segsL_nil [Glo] {ops : List (Option Tmp)} {u : List Oper} {K : St → Prop} : segsL P ops [] u K st = K st := rfl
@[simp] theorem segsL_1 [Glo] {ops : List (Option Tmp)} {K : St → Prop} {o : Oper} {prs : List (List Nat) × List (Nat × Nat)} {r : List (Nat × List (List Nat) × List (Nat × Nat))} {u : List Oper} : segsL P ops ((1, prs) :: r) (o :: u) K st = stepV P ops o (segsL P ops r u K) st := rfl
@[simp] theorem segsL_2 [Glo] {ops : List (Option Tmp)} {K : St → Prop} {len : Nat} {prs : List (List Nat)} {prp : List (Nat × Nat)} {r : List (Nat × List (List Nat) × List (Nat × Nat))} {u : List Oper} : segsL P ops ((len + 2, prs, prp) :: r) u K st = drawV P ops prs st (fun done => rechk P ops prs st (u.take (len + 2)) done prp ∧ segsL P ops r (u.drop (len + 2)) K (stS st (fun _ => true) done)) (u.take (len + 2)) [] := segsL_more (by omega)
end
end Go.Ab
