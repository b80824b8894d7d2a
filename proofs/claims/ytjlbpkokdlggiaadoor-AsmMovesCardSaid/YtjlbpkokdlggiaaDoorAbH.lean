/- Abstract states for walks, part 8: rows written, literals filled. -/
import Derived.Test.YtjlbpkokdlggiaaDoorAbG
namespace Go.Ab
open Go.RowKit

section
variable {P : Program} {base : Nat} {Xa : Nat → Prop} {w0 : W0} {w w' : World} {st : St} {a : Act} {M M' : Mp} {X X' : Nat → Prop} {n n' : Nat}

theorem store_row {e size len cap g o : Nat} : ∀ (us : List Value) (i : Nat) (vals : List Value) (w : World), w.ownsG base e size (.slice (some ⟨g, 0, none⟩) len cap) len vals → o + i + us.length ≤ vals.length → (∀ u ∈ us, u.oneCell' = true) →
    ∃ w', (storeCells ⟨g, o, none⟩ us i).run P w = .ok () w' ∧ w'.ownsG base e size (.slice (some ⟨g, 0, none⟩) len cap) len (spl vals (o + i) us) ∧ w.grownBy w' (some g)
  | [], i, vals, w, h, _, _ => ⟨w, by simp [storeCells], h, World.grownBy.refl w _⟩
  | u :: us, i, vals, w, h, hl, h1 => by
    simp only [List.length_cons] at hl
    have hc := h.cellAt (o + i) (by have := h.1; omega)
    have hf := h.frozenAt (o + i) (by have := h.1; omega)
    have hcs : vals[o + i]? = some vals[o + i] := List.getElem?_eq_getElem (by omega)
    rw [hcs] at hc
    obtain ⟨h2, hg⟩ := h.stored (o + i) u
    obtain ⟨w', hrun, h3, hg'⟩ := store_row (o := o) us (i + 1) _ _ h2 (by simp; omega) (fun x hx => h1 x (List.mem_cons_of_mem _ hx))
    have e : (⟨g, o, none⟩ : Addr).add i = ⟨g, o + i, none⟩ := by unfold Addr.add; split <;> simp_all
    refine ⟨w', ?_, by rw [spl]; exact h3, ?_⟩
    · simp only [storeCells, Sem.run_bind, e, run_store P w _ u .plain (h1 u (List.mem_cons_self ..)), hc, hf]
      simpa using hrun
    · exact ⟨hg'.os.trans hg.os, hg'.tape.trans hg.tape, hg'.output.trans hg.output, Nat.le_trans hg.size hg'.size, fun k hk hne => (hg'.block k (Nat.lt_of_lt_of_le hk hg.size) hne).trans (hg.block k hk hne)⟩

theorem flat_set [Glo] {m : Nat} (l : List (List V)) (i : Nat) (x : List V) (hl : ∀ y ∈ l, y.length = m) (hx : x.length = m) (hi : i < l.length) : (l.set i x).flatten = spl l.flatten (i * m) x := by
  have hfl := flat_len l hl
  have hl' : ∀ y ∈ l.set i x, y.length = m := fun y hy => by
    rcases List.mem_or_eq_of_mem_set hy with h | h
    · exact hl y h
    · subst h; exact hx
  have hle : i * m + m ≤ l.length * m := by rw [← Nat.succ_mul]; exact Nat.mul_le_mul_right _ hi
  rcases Nat.eq_zero_or_pos m with h0 | h0
  · subst h0
    have e1 : (l.set i x).flatten = [] := List.eq_nil_of_length_eq_zero (by rw [flat_len _ hl']; simp)
    have e2 : l.flatten = [] := List.eq_nil_of_length_eq_zero (by rw [hfl]; simp)
    have e3 : x = [] := List.eq_nil_of_length_eq_zero hx
    rw [e1, e2, e3]; rfl
  apply List.ext_getElem?
  intro j
  rw [spl_get _ _ _ _ (by rw [hx, hfl]; exact hle)]
  have hq : j = (j / m) * m + j % m := by rw [Nat.mul_comm]; exact (Nat.div_add_mod j m).symm
  have hr := Nat.mod_lt j h0
  generalize j / m = q at hq
  generalize j % m = r at hq hr
  subst hq
  rw [flat_get _ _ _ hl' hr, flat_get _ _ _ hl hr]
  by_cases hqi : q = i
  · subst hqi
    rw [if_pos (by omega), Nat.add_sub_cancel_left]
    simp [List.getD_eq_getElem?_getD, hi]
  · rw [if_neg (by
      intro h
      rcases Nat.lt_or_gt_of_ne hqi with h' | h'
      · have : (q + 1) * m ≤ i * m := Nat.mul_le_mul_right _ h'
        rw [Nat.add_mul] at this; omega
      · have : (i + 1) * m ≤ q * m := Nat.mul_le_mul_right _ h'
        rw [Nat.add_mul] at this; omega)]
    simp only [List.getD_eq_getElem?_getD]
    rw [List.getElem?_set_ne (by omega)]

theorem spl_spl [Glo] {α : Type} (xs : List α) (k off : Nat) (seg ds : List α) (hs : k + seg.length ≤ xs.length) (hseg : ∀ j, j < seg.length → seg[j]? = xs[k + j]?) (hd : off + ds.length ≤ seg.length) : spl xs k (spl seg off ds) = spl xs (k + off) ds := by
  apply List.ext_getElem?
  intro j
  rw [spl_get (spl seg off ds) xs k j (by rw [spl_length]; exact hs), spl_get ds xs (k + off) j (by omega), spl_length]
  by_cases h1 : k ≤ j ∧ j < k + seg.length
  · rw [if_pos h1, spl_get _ _ _ _ hd]
    by_cases h2 : k + off ≤ j ∧ j < k + off + ds.length
    · rw [if_pos (by omega), if_pos h2]; congr 1; omega
    · rw [if_neg (by omega), if_neg h2, hseg _ (by omega)]; congr 1; omega
  · rw [if_neg h1, if_neg (by omega)]

/-- A store into an object. -/
theorem RelM.store [Glo] (h : RelM base Xa w0 st a w M) {id : Nat} {o : Ob} (ho : lookO st.ob id = some o) (hf : o.fz = false) {g i off : Nat} (hg : (M id).ownBlock = some g) (hi : i < o.xs.length) {ds : List V} {us : List Value}
    (hd : off + ds.length ≤ o.sz) (hds : Cs M w (Xf base Xa w M st.ob) (if o.box then st.nx else 0) ds us) :
    ∃ w', (storeCells ⟨g, i * o.sz + off, none⟩ us 0).run P w = .ok () w' ∧ RelM base Xa w0 { st with ob := (id, some { o with xs := o.xs.set i (Ab.spl (o.xs.getD i []) off ds) }) :: st.ob } a w' M := by
  obtain ⟨hid, hok⟩ := h.obs id o ho
  obtain ⟨vals, hrow, h1, hr⟩ := hok.row
  have hlen : (o.xs.getD i []).length = o.sz := by
    rw [List.getD_eq_getElem?_getD, List.getElem?_eq_getElem hi]
    exact hok.len _ (List.getElem_mem hi)
  have hfl := flat_len o.xs hok.len
  have hvl := hrow.1
  have hle : i * o.sz + o.sz ≤ o.xs.length * o.sz := by rw [← Nat.succ_mul]; exact Nat.mul_le_mul_right _ hi
  have hdl := hds.len
  rcases hrow.sl (sl_of_blk hg) with ⟨h2, h3⟩ | ⟨g', cap, cur, h2, rest⟩
  · omega
  · rw [h2] at hg hrow
    simp only [Value.ownBlock, Option.some.injEq] at hg
    subst hg
    obtain ⟨w', hrun, hown, hgr⟩ := store_row (P := P) (o := i * o.sz + off) us 0 vals w hrow (by omega) hds.one
    have hgr' : w.grownBy w' (M id).ownB := by rw [h2]; exact hgr
    refine ⟨w', hrun, ?_⟩
    refine h.modify (o' := { o with xs := o.xs.set i (Ab.spl (o.xs.getD i []) off ds) }) ho hf hgr' ⟨hok.pos, ?_, Ab.spl vals (i * o.sz + off) us, ?_, ?_, ?_⟩
    · intro x hx
      rcases List.mem_or_eq_of_mem_set hx with h | h
      · exact hok.len x h
      · subst h; rw [spl_length]; exact hlen
    · rw [h2]; simpa using hown
    · intro u hu
      obtain ⟨j, hj⟩ := List.getElem?_of_mem hu
      rw [spl_get _ _ _ _ (by omega)] at hj
      split at hj
      · exact hds.one _ (List.mem_of_getElem? hj)
      · exact h1 _ (List.mem_of_getElem? hj)
    · have hX : ∀ b, Xf base Xa w M st.ob b → Xf base Xa w' M ((id, some { o with xs := o.xs.set i (Ab.spl (o.xs.getD i []) off ds) }) :: st.ob) b := fun b hx =>
        ⟨hx.1.imp (fun x => x) fun h => ⟨h.1, by have := hgr.size; omega⟩, fun i' o1 ho1 hf1 => by
          simp only [lookO] at ho1
          split at ho1
          · rename_i e; subst e; exact hx.2 _ o ho hf
          · exact hx.2 i' o1 ho1 hf1⟩
      have hw : ∀ b, Xf base Xa w M st.ob b → w'.heap[b]? = w.heap[b]? := fun b hx => hgr'.block b (hx.lt h.xa h.hbase) (fun e => hx.2 id o ho hf e.symm)
      have hcs : Cs M w (Xf base Xa w M st.ob) (if o.box then st.nx else 0) o.xs.flatten vals := ⟨by rw [hfl, hvl], h1, hr⟩
      have := (hcs.spl hds (i * o.sz + off) (by omega)).mono (Nat.le_refl _) (fun _ _ => rfl) hX hw
      have e : (o.xs.set i (Ab.spl (o.xs.getD i []) off ds)).flatten = Ab.spl o.xs.flatten (i * o.sz + off) ds := by
        rw [flat_set o.xs i _ hok.len (by rw [spl_length]; exact hlen) hi]
        exact spl_spl _ _ _ _ _ (by omega) (fun j hj => (flat_get _ _ _ hok.len (by omega)).symm) (by omega)
      intro j u hu
      simp only at hu
      rw [e] at hu
      exact this.rel j u hu

theorem foldl_spl (off : Nat) : ∀ (l : List Value) (k : Nat) (arr : Array Value), ((l.zipIdx k).foldl (fun cs (x : Value × Nat) => cs.setIfInBounds (off + x.2) x.1) arr).toList = Ab.spl arr.toList (off + k) l
  | [], k, arr => rfl
  | v :: l, k, arr => by
    simp only [List.zipIdx_cons, List.foldl_cons]
    rw [foldl_spl off l (k + 1), spl, Array.toList_setIfInBounds]
    rfl

/-- a literal's parts laid over its zero value -/
def fillV [Glo] (st : St) (place : Nat → Option (Nat × Nat)) : List V → List (Nat × Operand) → Option (List V)
  | cs, [] => some cs
  | cs, (i, x) :: r => match place i with
    | none => none
    | some (off, m) => match boxC (ev st x) with
      | some ds => if ds.length = m ∧ off + m ≤ cs.length then fillV st place (spl cs off ds) r else none
      | none => none

theorem fill_R [Glo] {X : Nat → Prop} {N : Nat} (h : RelX base st a w M X N) (place : Nat → Option (Nat × Nat)) : ∀ (parts : List (Nat × Operand)) (cs : List V) (arr : Array Value) (cs' : List V), fillV st place cs parts = some cs' →
    Cs M w X N cs arr.toList → ∃ arr', Instr.fill place arr (parts.map fun x => (x.1, a.eval x.2)) = some arr' ∧ Cs M w X N cs' arr'.toList
  | [], cs, arr, cs', hf, hc => by
    simp only [fillV, Option.some.injEq] at hf
    subst hf
    exact ⟨arr, rfl, hc⟩
  | (i, x) :: r, cs, arr, cs', hf, hc => by
    simp only [fillV] at hf
    split at hf
    · simp at hf
    · rename_i off m hp
      split at hf
      · rename_i ds hds
        split at hf
        · rename_i hcond
          have hd := boxC_R hds (ev_R h x)
          have e1 : (a.eval x).cells.size = m := by rw [← hcond.1, hd.len]; simp
          have e2 : arr.size = cs.length := by rw [hc.len]; simp
          have hsp := hc.spl hd off (by omega)
          have hfold : (Array.foldl (fun cs (x : Value × Nat) => cs.setIfInBounds (off + x.2) x.1) arr (a.eval x).cells.zipIdx).toList = Ab.spl arr.toList off (a.eval x).cells.toList := by
            rw [← Array.foldl_toList, Array.toList_zipIdx]
            exact foldl_spl off _ 0 arr
          obtain ⟨arr', h1, h2⟩ := fill_R h place r _ (Array.foldl (fun cs (x : Value × Nat) => cs.setIfInBounds (off + x.2) x.1) arr (a.eval x).cells.zipIdx) cs' hf (by rw [hfold]; exact hsp)
          refine ⟨arr', ?_, h2⟩
          simp only [List.map_cons, Instr.fill, hp, e1]
          rw [if_neg (by simp; omega)]
          exact h1
        · simp at hf
      · simp at hf
end
end Go.Ab
