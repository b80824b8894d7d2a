/- Abstract states for walks, part 18: regions that draw their order: the orders. -/
import Derived.Test.YtjlbpkokdlggiaaDoorAbQ
namespace Go.Ab
open Go.RowKit

section
variable {P : Program} {ops : Array Oper} {Q : Exit → Act → World → Prop}

theorem go_acc (m : Region.Mode) : ∀ (fuel t : Nat) (listed : Array Bool) (acc : List Nat), Region.linearise.go m ops fuel t listed acc = acc.reverse ++ Region.linearise.go m ops fuel t listed []
  | 0, t, listed, acc => by simp [Region.linearise.go]
  | fuel + 1, t, listed, acc => by
    rw [Region.linearise.go, Region.linearise.go]
    split
    · rename_i i _
      rw [go_acc m fuel _ _ (i :: acc), go_acc m fuel _ _ [i]]
      simp
    · simp

theorem countP_lt {α : Type} (p q : α → Bool) : ∀ (l : List α), (∀ x ∈ l, q x = true → p x = true) → ∀ i ∈ l, p i = true → q i = false → l.countP q < l.countP p
  | [], _, i, h, _, _ => by simp at h
  | x :: l, hpq, i, hi, hp, hq => by
    have hle : ∀ l : List α, (∀ x ∈ l, q x = true → p x = true) → l.countP q ≤ l.countP p := fun l h => List.countP_mono_left h
    have h1 := hle l (fun y hy => hpq y (List.mem_cons_of_mem _ hy))
    rcases List.mem_cons.1 hi with rfl | hi
    · simp only [List.countP_cons, hp, hq]; simp; omega
    · have := countP_lt p q l (fun y hy => hpq y (List.mem_cons_of_mem _ hy)) i hi hp hq
      simp only [List.countP_cons]
      cases hqx : q x with
      | false => simp; split <;> omega
      | true => simp [hpq x (List.mem_cons_self ..) hqx]; omega

/-- IN WHATEVER ORDER ITS EDGES ALLOW. -/
theorem lin_sound [Glo] (hacyc : ∀ (i : Nat) (o : Oper), ops[i]? = some o → ∀ e ∈ o.after, e.on < i) (Good : (Nat → Bool) → Act → World → Prop)
    (hcongr : ∀ L L' a w, (∀ i, i < ops.size → L i = L' i) → Good L a w → Good L' a w)
    (step : ∀ L a w, Good L a w → ∀ (i : Nat) (o : Oper), ops[i]? = some o → L i = false → (∀ e ∈ o.after, Region.binds .any e = true → L e.on = true) →
      if Region.wanted o (yielded ops a.tmps) = true then o.wp P a w (Good fun j => decide (j = i) || L j) Q else Good (fun j => decide (j = i) || L j) (a.put o.dst undef) w)
    (hend : ∀ L a w, Good L a w → (∀ i, i < ops.size → L i = true) → Q .normal a w) :
    ∀ (fuel t : Nat) (listed : Array Bool) (a : Act) (w : World), listed.size = ops.size → (List.range ops.size).countP (fun i => !listed.getD i true) ≤ fuel → Good (fun i => listed.getD i true) a w →
      wpOps P ops Q (Region.linearise.go .any ops fuel t listed []) a w
  | 0, t, listed, a, w, hsz, hf, hg => by
    simp only [Region.linearise.go, List.reverse_nil, wpOps]
    refine hend _ a w hg fun i hi => ?_
    have h0 : (List.range ops.size).countP (fun i => !listed.getD i true) = 0 := by omega
    have := List.countP_eq_zero.1 h0 i (List.mem_range.2 hi)
    simpa using this
  | fuel + 1, t, listed, a, w, hsz, hf, hg => by
    rw [Region.linearise.go]
    generalize hrs : (List.range ops.size).filter (fun i => !listed.getD i true && ((ops[i]?).map (·.after.all fun e => !Region.binds .any e || listed.getD e.on false)).getD false) = rs
    have hmem : ∀ i, i ∈ rs ↔ i < ops.size ∧ listed.getD i true = false ∧ ((ops[i]?).map (·.after.all fun e => !Region.binds .any e || listed.getD e.on false)).getD false = true := fun i => by
      rw [← hrs, List.mem_filter, List.mem_range]; simp
    split
    · rename_i i hi
      have hir := (hmem i).1 (List.mem_of_getElem? hi)
      rw [go_acc]
      simp only [List.reverse_cons, List.reverse_nil, List.nil_append, List.singleton_append, wpOps]
      obtain ⟨o, ho⟩ : ∃ o, ops[i]? = some o := ⟨ops[i]'hir.1, Array.getElem?_eq_getElem hir.1⟩
      simp only [ho]
      have hpre : ∀ e ∈ o.after, Region.binds .any e = true → listed.getD e.on true = true := fun e he hb => by
        have h := hir.2.2
        rw [ho] at h
        simp only [Option.map_some, Option.getD_some, Array.all_eq_true'] at h
        have := h e he
        simp only [hb, Bool.not_true, Bool.false_or] at this
        have hlt : e.on < listed.size := by
          rw [hsz]
          exact Nat.lt_trans (hacyc i o ho e he) hir.1
        simpa [Array.getD, hlt] using this
      have hs := step _ a w hg i o ho hir.2.1 hpre
      have next : ∀ a' w', Good (fun j => decide (j = i) || listed.getD j true) a' w' → wpOps P ops Q (Region.linearise.go .any ops fuel (t / rs.length) (listed.setIfInBounds i true) []) a' w' := fun a' w' hg' => by
        refine lin_sound hacyc Good hcongr step hend fuel _ _ a' w' (by simpa using hsz) ?_ (hcongr _ _ a' w' (fun j hj => ?_) hg')
        · have := countP_lt (fun j => !listed.getD j true) (fun j => !(listed.setIfInBounds i true).getD j true) (List.range ops.size) (fun j hj hq => by
            simp only [Array.getD_eq_getD_getElem?, Array.getElem?_setIfInBounds] at hq ⊢
            split at hq
            · rename_i e; subst e; split at hq <;> simp at hq
            · exact hq) i (List.mem_range.2 hir.1) (by simpa using hir.2.1) (by simp [Array.getD_eq_getD_getElem?, Array.getElem?_setIfInBounds]; split <;> rfl)
          omega
        · simp only [Array.getD_eq_getD_getElem?, Array.getElem?_setIfInBounds]
          by_cases e : j = i
          · subst e; simp; split <;> rfl
          · rw [if_neg (by omega)]; simp [e]
      split
      · rename_i hw
        rw [if_pos hw] at hs
        exact .inl (oper_mono hs next)
      · rename_i hw
        rw [if_neg hw] at hs
        exact next _ _ hs
    · rename_i hnone
      have hrs0 : rs = [] := by
        rcases Nat.eq_zero_or_pos rs.length with h | h
        · exact List.eq_nil_of_length_eq_zero h
        · rw [List.getElem?_eq_getElem (Nat.mod_lt t h)] at hnone; cases hnone
      simp only [List.reverse_nil, wpOps]
      refine hend _ a w hg ?_
      intro i
      induction i using Nat.strongRecOn with
      | _ i ih =>
        intro hi
        cases hli : listed.getD i true with
        | true => rfl
        | false =>
          exfalso
          have : i ∈ rs := (hmem i).2 ⟨hi, hli, by
            rw [Array.getElem?_eq_getElem hi]
            simp only [Option.map_some, Option.getD_some, Array.all_eq_true']
            intro e he
            have hlt := hacyc i _ (Array.getElem?_eq_getElem hi) e he
            have := ih e.on hlt (by omega)
            have hlt' : e.on < listed.size := by omega
            have h2 : listed.getD e.on false = true := by
              rw [Array.getD_eq_getD_getElem?, Array.getElem?_eq_getElem hlt'] at this ⊢
              exact this
            rw [h2]; simp⟩
          rw [hrs0] at this
          cases this
end
end Go.Ab
