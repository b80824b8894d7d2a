/- Abstract states for walks, part 2: how the relation goes on over the steps of a run. -/
import Derived.Test.YtjlbpkokdlggiaaDoorAbA
namespace Go.Ab
open Go.RowKit

def St.put (st : St) (dst : Option Tmp) (v : V) : St :=
  match dst with
  | some d => { st with tmp := (d, v) :: st.tmp }
  | none => st

section
variable {base : Nat} {Xa : Nat → Prop} {w0 : W0} {w w' : World} {st : St} {a : Act} {M M' : Mp}

theorem RelM.gin [Glo] (h : RelM base Xa w0 st a w M) : GIn w (Xf base Xa w M st.ob) := by
  have hle : base ≤ w0.w.heap.size := Nat.le_of_eq h.xa.2.2
  refine ⟨Glo.mono h.xa.2.1.1 (by rw [← h.xa.2.2]; exact h.below), fun g cs hg M' n => (h.xa.2.1.2 g cs hg M' n).mono (Nat.le_refl _) (fun _ _ => rfl) (fun b hb => ⟨.inl hb, fun id o ho _ e => ?_⟩) (fun b hb => h.below.block b (h.xa.1 b hb))⟩
  obtain ⟨vals, hrow, _⟩ := (h.obs id o ho).2.row
  have := (hrow.lt b e).1
  have := h.xa.1 b hb
  omega
/-- What the operations need that write nothing. -/
structure RelX [Glo] (base : Nat) (st : St) (a : Act) (w : World) (M : Mp) (X : Nat → Prop) (N : Nat) : Prop where
  tmps : ∀ t, R M w X N (lkT st.tmp t) (a.tmps.getD t undef)
  obs : ∀ id o, lookO st.ob id = some o → id < N ∧ ObOk base M N w X (M id) o
  gl : GIn w X
theorem RelM.rx [Glo] (h : RelM base Xa w0 st a w M) : RelX base st a w M (Xf base Xa w M st.ob) st.nx := ⟨h.tmps, h.obs, h.gin⟩

abbrev RelM.X [Glo] (_ : RelM base Xa w0 st a w M) : Nat → Prop := Xf base Xa w M st.ob

theorem Xf.lt [Glo] {ob : List (Nat × Option Ob)} (hb : XaOk base Xa w0.w) (hbase : base ≤ w.heap.size) {b : Nat} (h : Xf base Xa w M ob b) : b < w.heap.size := by
  rcases h.1 with h | h
  · have := hb.1 b h; omega
  · exact h.2

theorem Xf.world {ob : List (Nat × Option Ob)} (hs : w.heap.size ≤ w'.heap.size) {b : Nat} (h : Xf base Xa w M ob b) : Xf base Xa w' M ob b :=
  ⟨h.1.imp id fun h => ⟨h.1, by omega⟩, h.2⟩

theorem ObOk.mono {n n' : Nat} {X X' : Nat → Prop} {v : Value} {o : Ob} (h : ObOk base M n w X v o) (hn : n ≤ n') (hM : ∀ i, i < n → M' i = M i)
    (hX : ∀ b, X b → X' b) (hw : ∀ b, X b → w'.heap[b]? = w.heap[b]?) (hv : ∀ g, v.ownB = some g → w'.heap[g]? = w.heap[g]?) : ObOk base M' n' w' X' v o := by
  obtain ⟨vals, hrow, h1, hr⟩ := h.row
  refine ⟨h.pos, h.len, vals, ⟨hrow.1, ?_⟩, h1, fun j u hu => (hr j u hu).mono ?_ ?_ hX hw⟩
  · rcases hrow.2 with h2 | ⟨g, cap, cur, e, hb, hg, rest⟩ | hodd
    · exact .inl h2
    · exact .inr (.inl ⟨g, cap, cur, e, hb, hg.congr (hv g (by rw [e]; rfl)), rest⟩)
    · exact .inr (.inr (hodd.congr hv fun _ _ h => h))
  · split
    · exact hn
    · exact Nat.le_refl _
  · intro i hi
    split at hi
    · exact hM i hi
    · omega

/-- The world has at most new blocks. -/
theorem RelM.world [Glo] (h : RelM base Xa w0 st a w M) (hb : Below w.heap.size w w') : RelM base Xa w0 st a w' M := by
  have hX : ∀ b, Xf base Xa w M st.ob b → Xf base Xa w' M st.ob b := fun b hx => hx.world hb.size
  have hw : ∀ b, Xf base Xa w M st.ob b → w'.heap[b]? = w.heap[b]? := fun b hx => hb.block b (hx.lt h.xa h.hbase)
  refine ⟨h.below.trans (hb.mono h.hbase), Nat.le_trans h.hbase hb.size, h.xa, fun m k v u hv => (h.gh m k v u hv).mono (Nat.le_refl _) (fun _ _ => rfl) hX hw, h.pin, h.defers, h.size, fun t => (h.tmps t).mono (Nat.le_refl _) (fun _ _ => rfl) hX hw, fun id o ho => ?_, h.dist⟩
  obtain ⟨h1, h2⟩ := h.obs id o ho
  refine ⟨h1, h2.mono (Nat.le_refl _) (fun _ _ => rfl) hX hw fun g hg => ?_⟩
  obtain ⟨vals, hrow, _⟩ := h2.row
  exact hb.block g (hrow.lt g hg).2

theorem RelM.put [Glo] (h : RelM base Xa w0 st a w M) {dst : Option Tmp} {v : V} {u : Value} (hd : ∀ d, dst = some d → d < st.n) (hv : R M w (Xf base Xa w M st.ob) st.nx v u) :
    RelM base Xa w0 (st.put dst v) (a.put dst u) w M := by
  cases dst with
  | none => exact h
  | some d =>
    have hd' := hd d rfl
    refine ⟨h.below, h.hbase, h.xa, h.gh, h.pin, h.defers, by simp [Act.put, h.size, St.put], fun t => ?_, h.obs, h.dist⟩
    simp only [St.put, lkT, Act.put]
    by_cases ht : t = d
    · subst ht
      rw [if_pos rfl]
      have : (a.tmps.setIfInBounds t u).getD t undef = u := by
        have hlt : t < a.tmps.size := by rw [h.size]; exact hd'
        simp [Array.getD, hlt]
      rw [this]; exact hv
    · rw [if_neg ht]
      have : (a.tmps.setIfInBounds d u).getD t undef = a.tmps.getD t undef := by
        simp only [Array.getD_eq_getD_getElem?]
        rw [Array.getElem?_setIfInBounds_ne (by omega)]
      rw [this]; exact h.tmps t

/-- A new object in a new block. -/
theorem RelM.alloc [Glo] (h : RelM base Xa w0 st a w M) (o : Ob) (cur : Array Value) (cap : Nat) (hpos : o.box = false → 0 < o.sz) (hlen : ∀ x ∈ o.xs, x.length = o.sz) (hc : o.xs.length ≤ cap) (hm : cap ≤ maxLen) (hs : cur.size = cap * o.sz)
    (h1 : ∀ u ∈ cur, u.oneCell' = true)
    (hr : ∀ (j : Nat) (u : V), o.xs.flatten[j]? = some u → R M w (Xf base Xa w M st.ob) (if o.box then st.nx else 0) u (cur.getD j undef)) :
    ∃ M', (∀ i, i < st.nx → M' i = M i) ∧ M' st.nx = .slice (some ⟨w.heap.size, 0, none⟩) o.xs.length cap ∧ RelM base Xa w0 { st with nx := st.nx + 1, ob := (st.nx, some o) :: st.ob } a (w.alloc (.cells cur o.ety)) M' := by
  let M' : Mp := fun i => if i = st.nx then .slice (some ⟨w.heap.size, 0, none⟩) o.xs.length cap else M i
  have hM : ∀ i, i < st.nx → M' i = M i := fun i hi => by simp only [M']; rw [if_neg (by omega)]
  have hn : M' st.nx = .slice (some ⟨w.heap.size, 0, none⟩) o.xs.length cap := by simp [M']
  have hX : ∀ b, Xf base Xa w M st.ob b → Xf base Xa (w.alloc (.cells cur o.ety)) M' ((st.nx, some o) :: st.ob) b := by
    intro b hx
    refine ⟨hx.1.imp id fun h => ⟨h.1, by simp; omega⟩, fun id o' ho' hf => ?_⟩
    simp only [lookO] at ho'
    split at ho'
    · rename_i e; subst e
      rw [hn]
      have := hx.lt h.xa h.hbase
      simp [Value.ownB]; omega
    · rw [hM id (h.obs id o' ho').1]
      exact hx.2 id o' ho' hf
  have hw : ∀ b, Xf base Xa w M st.ob b → (w.alloc (.cells cur o.ety)).heap[b]? = w.heap[b]? := fun b hx => Below.heap_alloc _ _ _ (hx.lt h.xa h.hbase)
  refine ⟨M', hM, hn, h.below.alloc h.hbase _, Nat.le_trans h.hbase (by simp), h.xa, fun m k v u hv => (h.gh m k v u hv).mono (Nat.le_refl _) (fun _ _ => rfl) hX hw, ⟨Nat.le_trans h.pin.1 (by simp), fun i hi => (hM i (Nat.lt_of_lt_of_le hi h.pin.1)).trans (h.pin.2 i hi)⟩, h.defers, h.size, fun t => (h.tmps t).mono (by simp) hM hX hw, fun id o' ho' => ?_, ?_⟩
  · simp only [lookO] at ho'
    split at ho'
    · rename_i e; subst e
      simp only [Option.some.injEq] at ho'
      subst ho'
      refine ⟨by simp, hpos, hlen, cur.toList.take (o.xs.length * o.sz), ?_, fun u hu => h1 u (by simpa using List.mem_of_mem_take hu), fun j u hu => ?_⟩
      · rw [hn]
        refine ⟨?_, .inr (.inl ⟨w.heap.size, cap, cur, rfl, h.hbase, .plain (heap_alloc_new w _), hc, hm, hs, rfl⟩)⟩
        rw [List.length_take, Array.length_toList, hs]
        exact Nat.min_eq_left (Nat.mul_le_mul_right _ hc)
      · have hj : j < o.xs.length * o.sz := by
          have := (List.getElem?_eq_some_iff.1 hu).1
          rw [List.length_flatten] at this
          have hsum : (o.xs.map List.length).sum = o.xs.length * o.sz := by
            clear hu this hr hs hc hX hM hn
            generalize o.xs = l at hlen
            induction l with
            | nil => simp
            | cons x l ih => simp only [List.map_cons, List.sum_cons, List.length_cons, Nat.add_mul, Nat.one_mul]; rw [ih (fun y hy => hlen y (List.mem_cons_of_mem _ hy)), hlen x (List.mem_cons_self ..)]; omega
          omega
        have e : (cur.toList.take (o.xs.length * o.sz)).getD j undef = cur.getD j undef := by
          rw [List.getD_eq_getElem?_getD, List.getElem?_take, if_pos hj, Array.getD_eq_getD_getElem?, Array.getElem?_toList]
        rw [e]
        refine (hr j u hu).mono ?_ ?_ hX hw
        · split <;> simp
        · intro i hi
          split at hi
          · exact hM i hi
          · omega
    · obtain ⟨g1, g2⟩ := h.obs id o' ho'
      refine ⟨by simp only; omega, ?_⟩
      rw [hM id g1]
      refine g2.mono (by simp) hM hX hw fun g hg => ?_
      obtain ⟨vals, hrow, _⟩ := g2.row
      exact Below.heap_alloc _ _ _ (hrow.lt g hg).2
  · intro id id' o1 o2 g h1' h2' hne hg
    have hblk : ∀ i o', lookO st.ob i = some o' → ∀ g, (M i).ownB = some g → g < w.heap.size := fun i o' ho' g hg => by
      obtain ⟨vals, hrow, _⟩ := (h.obs i o' ho').2.row
      exact (hrow.lt g hg).2
    simp only [lookO] at h1' h2'
    split at h1'
    · rename_i e; subst e
      rw [hn] at hg
      simp [Value.ownB] at hg
      split at h2'
      · omega
      · rw [hM id' (h.obs id' o2 h2').1]
        intro hc'
        have := hblk id' o2 h2' g hc'
        omega
    · rw [hM id (h.obs id o1 h1').1] at hg
      split at h2'
      · rename_i e; subst e
        rw [hn]
        have := hblk id o1 h1' g hg
        simp [Value.ownB]; omega
      · rw [hM id' (h.obs id' o2 h2').1]
        exact h.dist id id' o1 o2 g h1' h2' hne hg

/-- The object's own block is written; nothing else. -/
theorem RelM.modify [Glo] (h : RelM base Xa w0 st a w M) {id : Nat} {o o' : Ob} (ho : lookO st.ob id = some o) (hf : o.fz = false) (hg : w.grownBy w' (M id).ownB)
    (hob : ObOk base M st.nx w' (Xf base Xa w' M ((id, some o') :: st.ob)) (M id) o') : RelM base Xa w0 { st with ob := (id, some o') :: st.ob } a w' M := by
  obtain ⟨hid, hok⟩ := h.obs id o ho
  have hX : ∀ b, Xf base Xa w M st.ob b → Xf base Xa w' M ((id, some o') :: st.ob) b := fun b hx =>
    ⟨hx.1.imp (fun x => x) fun h => ⟨h.1, by have := hg.size; omega⟩, fun i o1 ho1 hf1 => by
      simp only [lookO] at ho1
      split at ho1
      · rename_i e; subst e; exact hx.2 _ o ho hf
      · exact hx.2 i o1 ho1 hf1⟩
  have hw : ∀ b, Xf base Xa w M st.ob b → w'.heap[b]? = w.heap[b]? := fun b hx => hg.block b (hx.lt h.xa h.hbase) (fun e => hx.2 id o ho hf e.symm)
  obtain ⟨vals, hrow, _⟩ := hok.row
  refine ⟨h.below.grown hg h.hbase (fun k hk => (hrow.lt k hk).1), Nat.le_trans h.hbase hg.size, h.xa, fun m k v u hv => (h.gh m k v u hv).mono (Nat.le_refl _) (fun _ _ => rfl) hX hw, h.pin, h.defers, h.size, fun t => (h.tmps t).mono (Nat.le_refl _) (fun _ _ => rfl) hX hw, fun i o1 ho1 => ?_, ?_⟩
  · simp only [lookO] at ho1
    split at ho1
    · rename_i e; subst e
      simp only [Option.some.injEq] at ho1
      subst ho1
      exact ⟨hid, hob⟩
    · rename_i hne
      obtain ⟨g1, g2⟩ := h.obs i o1 ho1
      refine ⟨g1, g2.mono (Nat.le_refl _) (fun _ _ => rfl) hX hw fun g hgi => ?_⟩
      obtain ⟨vals', hrow', _⟩ := g2.row
      exact hg.block g (hrow'.lt g hgi).2 (fun e => h.dist i id o1 o g ho1 ho hne hgi e.symm)
  · intro i i' o1 o2 g h1 h2 hne hgi
    have hl : ∀ i o1, lookO ((id, some o') :: st.ob) i = some o1 → ∃ o2, lookO st.ob i = some o2 := fun i o1 h1 => by
      simp only [lookO] at h1
      split at h1
      · rename_i e; subst e; exact ⟨o, ho⟩
      · exact ⟨o1, h1⟩
    obtain ⟨p1, q1⟩ := hl i o1 h1
    obtain ⟨p2, q2⟩ := hl i' o2 h2
    exact h.dist i i' p1 p2 g q1 q2 hne hgi

/-- A new object, in a new block or in the block of one that is given up. -/
theorem RelM.grow [Glo] (h : RelM base Xa w0 st a w M) {ob1 : List (Nat × Option Ob)} (hsub : ∀ id o, lookO ob1 id = some o → lookO st.ob id = some o) (row : Option Nat)
    (hrowX : ∀ b, Xf base Xa w M st.ob b → some b ≠ row) (hrowO : ∀ id o, lookO ob1 id = some o → ∀ g, (M id).ownB = some g → some g ≠ row) (hrowB : ∀ g, row = some g → base ≤ g)
    (hg : w.grownBy w' row) (v' : Value) (hv' : ∀ g, v'.ownB = some g → some g = row ∨ w.heap.size ≤ g) (o' : Ob) (hpos : o'.box = false → 0 < o'.sz) (hlen : ∀ x ∈ o'.xs, x.length = o'.sz) (vals : List Value)
    (hown : w'.ownsG base o'.ety o'.sz v' o'.xs.length vals) (h1 : ∀ u ∈ vals, u.oneCell' = true)
    (hr : ∀ (j : Nat) (u : V), o'.xs.flatten[j]? = some u → R M w (Xf base Xa w M st.ob) (if o'.box then st.nx else 0) u (vals.getD j undef)) :
    ∃ M', (∀ i, i < st.nx → M' i = M i) ∧ M' st.nx = v' ∧ RelM base Xa w0 { st with nx := st.nx + 1, ob := (st.nx, some o') :: ob1 } a w' M' := by
  let M' : Mp := fun i => if i = st.nx then v' else M i
  have hM : ∀ i, i < st.nx → M' i = M i := fun i hi => by simp only [M']; rw [if_neg (by omega)]
  have hn : M' st.nx = v' := by simp [M']
  have hblk : ∀ i o', lookO st.ob i = some o' → ∀ g, (M i).ownB = some g → g < w.heap.size := fun i o' ho' g hg => by
    obtain ⟨vals, hrow, _⟩ := (h.obs i o' ho').2.row
    exact (hrow.lt g hg).2
  have hX : ∀ b, Xf base Xa w M st.ob b → Xf base Xa w' M' ((st.nx, some o') :: ob1) b := by
    intro b hx
    have hb := hx.lt h.xa h.hbase
    refine ⟨hx.1.imp id fun h => ⟨h.1, by have := hg.size; omega⟩, fun id o1 ho1 hf => ?_⟩
    simp only [lookO] at ho1
    split at ho1
    · rename_i e; subst e
      rw [hn]
      intro e
      rcases hv' b e with e' | e'
      · exact hrowX b hx e'
      · omega
    · have := hsub id o1 ho1
      rw [hM id (h.obs id o1 this).1]
      exact hx.2 id o1 this hf
  have hw : ∀ b, Xf base Xa w M st.ob b → w'.heap[b]? = w.heap[b]? := fun b hx => hg.block b (hx.lt h.xa h.hbase) (hrowX b hx)
  refine ⟨M', hM, hn, h.below.grown hg h.hbase hrowB, Nat.le_trans h.hbase hg.size, h.xa, fun m k v u hv => (h.gh m k v u hv).mono (Nat.le_refl _) (fun _ _ => rfl) hX hw, ⟨Nat.le_trans h.pin.1 (by simp), fun i hi => (hM i (Nat.lt_of_lt_of_le hi h.pin.1)).trans (h.pin.2 i hi)⟩, h.defers, h.size, fun t => (h.tmps t).mono (by simp) hM hX hw, fun id o1 ho1 => ?_, ?_⟩
  · simp only [lookO] at ho1
    split at ho1
    · rename_i e; subst e
      simp only [Option.some.injEq] at ho1
      subst ho1
      refine ⟨by simp, hpos, hlen, vals, by rw [hn]; exact hown, h1, fun j u hu => (hr j u hu).mono ?_ ?_ hX hw⟩
      · split <;> simp
      · intro i hi
        split at hi
        · exact hM i hi
        · omega
    · have hs := hsub id o1 ho1
      obtain ⟨g1, g2⟩ := h.obs id o1 hs
      refine ⟨by simp only; omega, ?_⟩
      rw [hM id g1]
      exact g2.mono (by simp) hM hX hw fun g hgi => hg.block g (hblk id o1 hs g hgi) (hrowO id o1 ho1 g hgi)
  · intro id id' o1 o2 g h1' h2' hne hgi
    simp only [lookO] at h1' h2'
    split at h1'
    · rename_i e; subst e
      rw [hn] at hgi
      split at h2'
      · omega
      · have hs := hsub id' o2 h2'
        rw [hM id' (h.obs id' o2 hs).1]
        intro hc'
        rcases hv' g hgi with e | e
        · exact hrowO id' o2 h2' g hc' e
        · have := hblk id' o2 hs g hc'; omega
    · have hs := hsub id o1 h1'
      rw [hM id (h.obs id o1 hs).1] at hgi
      split at h2'
      · rename_i e; subst e
        rw [hn]
        intro hc'
        rcases hv' g hc' with e | e
        · exact hrowO id o1 h1' g hgi e
        · have := hblk id o1 hs g hgi; omega
      · have hs' := hsub id' o2 h2'
        rw [hM id' (h.obs id' o2 hs').1]
        exact h.dist id id' o1 o2 g hs hs' hne hgi

/-- Objects given up, or frozen: what is known of the others stays. -/
theorem RelM.sub [Glo] (h : RelM base Xa w0 st a w M) {ob1 : List (Nat × Option Ob)} (hsub : ∀ id o, lookO ob1 id = some o → ∃ fz, lookO st.ob id = some { o with fz := fz } ∧ (o.fz = false → fz = false)) :
    RelM base Xa w0 { st with ob := ob1 } a w M := by
  have hX : ∀ b, Xf base Xa w M st.ob b → Xf base Xa w M ob1 b := fun b hx => ⟨hx.1, fun id o ho hf => by
    obtain ⟨fz, h1, h2⟩ := hsub id o ho
    exact hx.2 id _ h1 (h2 hf)⟩
  refine ⟨h.below, h.hbase, h.xa, fun m k v u hv => (h.gh m k v u hv).mono (Nat.le_refl _) (fun _ _ => rfl) hX (fun _ _ => rfl), h.pin, h.defers, h.size, fun t => (h.tmps t).mono (Nat.le_refl _) (fun _ _ => rfl) hX (fun _ _ => rfl), fun id o ho => ?_, ?_⟩
  · obtain ⟨fz, h1, h2⟩ := hsub id o ho
    obtain ⟨g1, g2⟩ := h.obs id _ h1
    refine ⟨g1, ?_⟩
    have := g2.mono (Nat.le_refl _) (fun _ _ => rfl) hX (fun _ _ => rfl) (fun _ _ => rfl)
    exact ⟨this.pos, this.len, this.row⟩
  · intro id id' o1 o2 g h1 h2 hne hg
    obtain ⟨_, q1, _⟩ := hsub id o1 h1
    obtain ⟨_, q2, _⟩ := hsub id' o2 h2
    exact h.dist id id' _ _ g q1 q2 hne hg
end
end Go.Ab
