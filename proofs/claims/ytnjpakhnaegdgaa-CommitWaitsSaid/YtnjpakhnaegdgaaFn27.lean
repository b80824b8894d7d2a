/- Law 25, the plain part: what is shown. -/
import Derived.Test.YtnjpakhnaegdgaaFn26
namespace Go.Proofs.Ytnjpakhnaegdgaa
open Go.Ab
set_option linter.unusedSimpArgs false
/-- the bytes of outputs -/
def bts (l : List OutD) : List UInt8 := l.flatMap fun o => if o.kind = 1 then o.data else []
theorem bts_app (l m : List OutD) : bts (l ++ m) = bts l ++ bts m := by simp [bts]
theorem bts_one (o : OutD) : bts [o] = if o.kind = 1 then o.data else [] := by simp [bts]
theorem fits_data {o : OutD} (h : fitsB o = true) (hk : o.kind = 1) : o.data.length = 1 := by simpa [fitsB, hk] using (by simpa [fitsB, hk] using h : o.blk = 0 ∧ o.data.length = 1).2
theorem fits_kind {o : OutD} (h : fitsB o = true) : o.kind = 1 ∨ o.kind = 2 := by
  by_cases h1 : o.kind = 1
  · exact .inl h1
  · by_cases h2 : o.kind = 2
    · exact .inr h2
    · simp [fitsB, h1, h2] at h
theorem bts_le : ∀ {l : List OutD}, (∀ o ∈ l, fitsB o = true) → (bts l).length ≤ l.length
  | [], _ => by simp [bts]
  | o :: l, h => by
    have ih := bts_le (l := l) fun o ho => h o (List.mem_cons_of_mem _ ho)
    rw [show o :: l = [o] ++ l from rfl, bts_app, bts_one]
    split
    · rename_i hk; have := fits_data (h o (List.mem_cons_self ..)) hk; simp [this]; omega
    · simp; omega
theorem relC_bts : ∀ {l : List OutD} {b : Int}, (∀ o ∈ l, fitsB o = true) → 0 ≤ b → b + l.length < 1000000 → relC b l = b + (bts l).length
  | [], _, _, _, _ => by simp [relC, bts]
  | o :: l, b, h, hb, hs => by
    have hl := fun o ho => h o (List.mem_cons_of_mem _ ho)
    have hd := fun hk => fits_data (h o (List.mem_cons_self ..)) hk
    simp only [List.length_cons] at hs
    rw [relC, show o :: l = [o] ++ l from rfl, bts_app, bts_one]
    split
    · rename_i hk
      have hw : IntKind.u64.wrap (b + 1) = b + 1 := by rw [IntKind.wrap_u64]; omega
      rw [hw, relC_bts hl (by omega) (by omega)]
      have := hd hk
      simp only [List.length_append, this]; omega
    · rw [relC_bts hl hb (by omega)]; simp
theorem relL_at : ∀ (l : List OutD) (b : Int) (i : Nat) (h : i < l.length), (relL b l)[i]? = some (l[i], if l[i].kind = 1 then relC b (l.take i) else 0)
  | o :: l, b, 0, h => by simp [relL, relC]
  | o :: l, b, i + 1, h => by
    simp only [relL, List.getElem?_cons_succ, List.getElem_cons_succ, List.take_succ_cons, relC]
    exact relL_at l _ i (by simpa using h)
/-- how many outputs are released -/
def nrel (H : List OutD) (m : Int) : Nat := if 0 < m then (early m H).length else 0
theorem nrel_le (H : List OutD) (m : Int) : nrel H m ≤ H.length := by unfold nrel; split; exact early_le m H; omega
theorem early_lt (a : Int) : ∀ (l : List OutD), ∀ o ∈ early a l, o.at_ < a
  | [], o, ho => by simp [early] at ho
  | x :: l, o, ho => by
    by_cases hx : x.at_ < a
    · have e : early a (x :: l) = x :: early a l := by unfold early; rw [List.takeWhile_cons_of_pos (by simpa using hx)]
      rw [e] at ho
      rcases List.mem_cons.1 ho with rfl | ho
      · exact hx
      · exact early_lt a l o ho
    · have e : early a (x :: l) = [] := by unfold early; rw [List.takeWhile_cons_of_neg (by simpa using hx)]
      rw [e] at ho; simp at ho
theorem nrel_mono (H : List OutD) {a b : Int} (h : a ≤ b) : nrel H a ≤ nrel H b := by
  unfold nrel
  by_cases ha : 0 < a
  · rw [if_pos ha, if_pos (by omega)]
    refine early_take b H _ (early_le a H) ?_
    rw [← early_eq a H, List.all_eq_true]
    intro o ho
    have := early_lt a H o ho
    simp; omega
  · rw [if_neg ha]; omega
theorem ga_take (ls : List Int) (m : Int) : gaL ls m = (gout ls).drop (nrel (gout ls) m) ∧ gaC ls m = relC 0 ((gout ls).take (nrel (gout ls) m)) ∧ gaR ls m = relL 0 ((gout ls).take (nrel (gout ls) m)) := by
  unfold gaL gaC gaR nrel
  by_cases hm : 0 < m
  · simp only [if_pos hm]
    obtain ⟨h1, h2⟩ := early_srt m (gout_srt ls)
    have e := early_eq m (gout ls)
    exact ⟨h2.symm, by rw [← e, h1], by rw [← e, h1]⟩
  · simp [hm, relC, relL]
/-- one more is shown -/
theorem show_step {H : List OutD} (hf : ∀ o ∈ H, fitsB o = true) {j m : Nat} (hj : j < H.length) (hm : (bts (H.take j)).length ≤ m) (hm2 : m ≤ (bts H).length) {idx : Int} (hi : idx = if H[j].kind = 1 then ((bts (H.take j)).length : Int) else 0) :
    showB ((bts H).take m) H[j] idx = true ∧ showC ((bts H).take m) H[j] idx = (bts H).take (max m (bts (H.take (j + 1))).length) := by
  have hfo := hf H[j] (List.getElem_mem hj)
  have htk : H.take (j + 1) = H.take j ++ [H[j]] := List.take_succ_eq_append_getElem hj
  have hB : bts H = bts (H.take j) ++ (bts [H[j]] ++ bts (H.drop (j + 1))) := by
    rw [← bts_app, ← bts_app]
    congr 1
    rw [List.singleton_append, ← List.drop_eq_getElem_cons hj, List.take_append_drop]
  have hcl : ((bts H).take m).length = m := by rw [List.length_take]; omega
  have hn : (bts (H.take (j + 1))).length = (bts (H.take j)).length + (bts [H[j]]).length := by rw [htk, bts_app, List.length_append]
  generalize H[j] = o at hfo hi hB hn ⊢
  rw [bts_one] at hB hn
  rcases fits_kind hfo with hk | hk
  · rw [if_pos hk] at hi hB hn
    have hd := fits_data hfo hk
    obtain ⟨d, hdd⟩ : ∃ d, o.data = [d] := List.length_eq_one_iff.1 hd
    subst hi
    by_cases he : (bts (H.take j)).length = m
    · refine ⟨by simp [showB, hk, hd, hcl, he], ?_⟩
      rw [showC, if_pos ⟨hk, hd, by rw [hcl, he]⟩, hn, hd, he, Nat.max_eq_right (by omega)]
      rw [hB, ← he, List.take_left, hdd]
      rw [show (bts (H.take j)).length + 1 = (bts (H.take j) ++ [d]).length by simp, ← List.append_assoc, List.take_left]
    · have hlt : (bts (H.take j)).length < m := by omega
      have hg : ((bts H).take m).getD (bts (H.take j)).length 0 = d := by
        rw [List.getD_eq_getElem?_getD, List.getElem?_take_of_lt hlt, hB, List.getElem?_append_right (Nat.le_refl _), hdd]
        simp
      refine ⟨?_, ?_⟩
      · have h1 : ((bts (H.take j)).length : Int) ≤ ((bts H).take m).length := by rw [hcl]; omega
        unfold showB
        rw [if_neg (by omega), hdd, Int.toNat_natCast, hg]
        simp [hk, Nat.min_eq_left hm2]; omega
      · rw [showC, if_neg (fun h => he (by have := h.2.2; rw [hcl] at this; omega)), hn, hd, Nat.max_eq_left (by omega)]
  · have hk1 : ¬ o.kind = 1 := by omega
    rw [if_neg hk1] at hn
    refine ⟨by simp [showB, hk], ?_⟩
    rw [showC, if_neg (fun h => hk1 h.1), hn, Nat.max_eq_left (by simpa using hm)]
theorem bts_gout (ls : List Int) : bts (outL 1 ls) = bts (gout ls) := by
  unfold gout
  generalize outL 1 ls = l
  induction l with
  | nil => rfl
  | cons o l ih =>
    rw [List.filter_cons, show o :: l = [o] ++ l from rfl, bts_app, ih, bts_one]
    by_cases hk : o.kind = 1
    · have : gkind o = true := by simp [gkind, hk]
      rw [if_pos this, if_pos hk, show o :: l.filter gkind = [o] ++ l.filter gkind from rfl, bts_app, bts_one, if_pos hk]
    · rw [if_neg hk]
      split
      · rw [show o :: l.filter gkind = [o] ++ l.filter gkind from rfl, bts_app, bts_one, if_neg hk]
      · rfl
theorem relF_ok (ls : List Int) (m : Int) (hl : ls.length ≤ 100) (hm : m ≤ 1000) : Meets Try.prog 50 [gateV (gaL ls m) (max 0 m) (gaC ls m), .int .u64 2000] (.tup [gateV [] 2000 (relC (gaC ls m) (gaL ls m)), .sl 5 false (rels (relL (gaC ls m) (gaL ls m)))]) := by
  have hgl := gaL_len ls m
  have h := release_ok (gaL ls m) (max 0 m) (gaC ls m) 2000 (by omega)
  have hsub : ∀ o ∈ gaL ls m, o ∈ gout ls ∧ max 0 m ≤ o.at_ := fun o ho => by
    unfold gaL at ho
    split at ho
    · have := List.mem_filter.1 ho
      refine ⟨this.1, ?_⟩
      have := this.2
      simp at this
      omega
    · have := srt_ge (gout_srt ls) o ho
      refine ⟨ho, by omega⟩
  have hsrt : srt 1 (gaL ls m) := by unfold gaL; split; exact srt_filter _ (gout_srt ls); exact gout_srt ls
  have hv : validB (max 0 m) (gaL ls m) = true := validB_of (srt_of hsrt fun o ho => (hsub o ho).2) (fun o ho => gout_fits ls o (hsub o ho).1)
  have hall : early 2000 (gaL ls m) = gaL ls m := by
    rw [(early_srt 2000 hsrt).1, List.filter_eq_self]
    intro o ho
    have := outL_top ls 1 o (List.mem_filter.1 (hsub o ho).1).1
    simp; omega
  have e : gaL ls m = gaL ls m := rfl
  rw [rel_eq (by simp [relB, hv]; omega), hall, List.drop_length] at h
  exact h
end Go.Proofs.Ytnjpakhnaegdgaa
