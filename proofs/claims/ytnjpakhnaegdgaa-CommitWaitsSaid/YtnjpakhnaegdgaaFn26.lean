/- Law 25, the plain part: ordered outputs, what is held and what is released. -/
import Derived.Test.YtnjpakhnaegdgaaFn25
namespace Go.Proofs.Ytnjpakhnaegdgaa
open Go.Ab
set_option linter.unusedSimpArgs false
def srt : Int → List OutD → Prop
  | _, [] => True
  | a, o :: r => a ≤ o.at_ ∧ srt o.at_ r
theorem srt_mono : ∀ {l : List OutD} {a b : Int}, srt a l → b ≤ a → srt b l
  | [], _, _, _, _ => trivial
  | _ :: _, _, _, h, hb => ⟨by have := h.1; omega, h.2⟩
theorem srt_ge : ∀ {l : List OutD} {a : Int}, srt a l → ∀ o ∈ l, a ≤ o.at_
  | [], _, _, o, ho => by simp at ho
  | x :: l, a, h, o, ho => by
    rcases List.mem_cons.1 ho with rfl | ho
    · exact h.1
    · have := srt_ge h.2 o ho
      have := h.1
      omega
theorem srt_of : ∀ {l : List OutD} {a m : Int}, srt a l → (∀ o ∈ l, m ≤ o.at_) → srt m l
  | [], _, _, _, _ => trivial
  | x :: l, _, _, h, hm => ⟨hm x (List.mem_cons_self ..), h.2⟩
theorem srt_filter (p : OutD → Bool) : ∀ {l : List OutD} {a : Int}, srt a l → srt a (l.filter p)
  | [], _, _ => trivial
  | x :: l, a, h => by
    rw [List.filter_cons]
    split
    · exact ⟨h.1, srt_filter p h.2⟩
    · exact srt_mono (srt_filter p h.2) h.1
theorem srt_app : ∀ {l m : List OutD} {a b : Int}, srt a l → srt b m → (∀ o ∈ l, o.at_ ≤ b) → a ≤ b → srt a (l ++ m)
  | [], _, _, _, _, hm, _, hab => srt_mono hm hab
  | x :: l, m, a, b, hl, hm, h, _ => ⟨hl.1, srt_app hl.2 hm (fun o ho => h o (List.mem_cons_of_mem _ ho)) (h x (List.mem_cons_self ..))⟩
theorem validB_of : ∀ {l : List OutD} {a : Int}, srt a l → (∀ o ∈ l, fitsB o = true) → validB a l = true
  | [], _, _, _ => rfl
  | x :: l, a, h, hf => by
    simp only [validB, hf x (List.mem_cons_self ..), validB_of h.2 (fun o ho => hf o (List.mem_cons_of_mem _ ho)), Bool.and_true, Bool.true_and, decide_eq_true_eq]
    exact h.1
theorem outL_srt : ∀ (l : List Int) (a : Int), srt a (outL a l)
  | [], _ => trivial
  | x :: l, a => ⟨by have := Int.emod_nonneg x (show (3 : Int) ≠ 0 by omega); simp [outO]; omega, outL_srt l _⟩
theorem outO_fits (a x : Int) (h : gkind (outO a x) = true) : fitsB (outO a x) = true := by
  have e1 := Int.emod_lt_of_pos x (show (0 : Int) < 20 by omega)
  have e2 := Int.emod_nonneg x (show (20 : Int) ≠ 0 by omega)
  simp only [gkind, Bool.or_eq_true, decide_eq_true_eq] at h
  have hk : (outO a x).kind = d3 x := rfl
  rw [hk] at h
  rcases h with h | h
  · simp [fitsB, outO, h, letter]
  · simp [fitsB, outO, h, dataA_len]; omega
theorem outL_fits : ∀ (l : List Int) (a : Int), ∀ o ∈ outL a l, gkind o = true → fitsB o = true
  | [], _, o, ho, _ => by simp [outL] at ho
  | x :: l, a, o, ho, hg => by
    simp only [outL, List.mem_cons] at ho
    rcases ho with rfl | ho
    · exact outO_fits _ _ hg
    · exact outL_fits l _ o ho hg
theorem outL_top : ∀ (l : List Int) (a : Int), ∀ o ∈ outL a l, o.at_ ≤ a + 2 * l.length
  | [], _, o, ho => by simp [outL] at ho
  | x :: l, a, o, ho => by
    have e1 := Int.emod_lt_of_pos x (show (0 : Int) < 3 by omega)
    simp only [outL, List.mem_cons] at ho
    rcases ho with rfl | ho
    · simp [outO]; omega
    · have := outL_top l _ o ho
      simp; omega
theorem early_srt (a : Int) : ∀ {l : List OutD} {b : Int}, srt b l → early a l = l.filter (fun o => decide (o.at_ < a)) ∧ l.drop (early a l).length = l.filter fun o => decide (a ≤ o.at_)
  | [], _, _ => ⟨rfl, rfl⟩
  | x :: l, b, h => by
    by_cases hx : x.at_ < a
    · obtain ⟨h1, h2⟩ := early_srt a h.2
      have e : early a (x :: l) = x :: early a l := by unfold early; rw [List.takeWhile_cons_of_pos (by simpa using hx)]
      have hx' : ¬ a ≤ x.at_ := by omega
      rw [e, List.length_cons, List.drop_succ_cons, h2, h1]
      simp [hx, hx']
    · have e : early a (x :: l) = [] := by unfold early; rw [List.takeWhile_cons_of_neg (by simpa using hx)]
      have hge : ∀ o ∈ x :: l, a ≤ o.at_ := fun o ho => by
        rcases List.mem_cons.1 ho with rfl | ho
        · omega
        · have := srt_ge h.2 o ho; omega
      rw [e]
      refine ⟨?_, ?_⟩
      · symm; rw [List.filter_eq_nil_iff]; intro o ho; have := hge o ho; simp; omega
      · simp only [List.length_nil, List.drop_zero]
        symm; rw [List.filter_eq_self]; intro o ho; simpa using hge o ho
theorem holdC_rel (a : Int) : ∀ (l : List OutD) (b : Int), holdC a b l = relC b (l.filter fun o => gkind o && decide (o.at_ < a))
  | [], _ => rfl
  | x :: l, b => by
    rw [holdC, holdC_rel a l, List.filter_cons]
    by_cases h1 : x.kind = 1
    · by_cases h2 : x.at_ < a
      · have : (gkind x && decide (x.at_ < a)) = true := by simp [gkind, h1, h2]
        rw [if_pos this, relC, if_pos h1, if_pos ⟨h1, h2⟩]
      · have : (gkind x && decide (x.at_ < a)) = false := by simp [h2]
        rw [this, if_neg (fun h => h2 h.2)]; rfl
    · rw [if_neg (fun h => h1 h.1)]
      split
      · rw [relC, if_neg h1]
      · rfl
theorem hold_eq {l m : List OutD} {a b : Int} (h : holdB a l m = true) : holdV l m a b = .tup [gateV (l ++ holdK a m) a (holdC a b m), .bool true] := by simp only [holdV, h, if_true]
theorem rel_eq {l : List OutD} {a b acked : Int} (h : relB a acked l = true) : relV l a b acked = .tup [gateV (l.drop (early acked l).length) acked (relC b (early acked l)), .sl 5 false (rels (relL b (early acked l)))] := by simp only [relV, h, if_true]
theorem rel_eq0 {l : List OutD} {a b acked : Int} (h : relB a acked l = false) : relV l a b acked = .tup [gateV l a b, .sl 5 false (rels [])] := by simp [relV, h]
/-- what is held of ordered outputs is valid -/
theorem holdB_of {l m : List OutD} {a b : Int} (hl : srt a l) (hlf : ∀ o ∈ l, fitsB o = true) (hm : srt b m) (hmf : ∀ o ∈ m, gkind o = true → fitsB o = true) (hlm : ∀ o ∈ l, o.at_ ≤ b) : holdB a l m = true := by
  have hk : ∀ o ∈ holdK a m, o ∈ m ∧ gkind o = true ∧ a ≤ o.at_ := fun o ho => by
    unfold holdK at ho
    rw [List.mem_filter] at ho
    simp only [Bool.and_eq_true, decide_eq_true_eq] at ho
    exact ho
  have hf : ∀ o ∈ l ++ holdK a m, fitsB o = true := fun o ho => by
    rcases List.mem_append.1 ho with ho | ho
    · exact hlf o ho
    · exact hmf o (hk o ho).1 (hk o ho).2.1
  have hs : srt a (l ++ holdK a m) := by
    have h1 : srt b (holdK a m) := srt_filter _ hm
    by_cases hab : a ≤ b
    · exact srt_app hl h1 hlm hab
    · have hnil : l = [] := by
        cases l with
        | nil => rfl
        | cons x l => have := hl.1; have := hlm x (List.mem_cons_self ..); omega
      subst hnil
      exact srt_of h1 (fun o ho => (hk o ho).2.2)
  simp only [holdB, validB_of hl hlf, validB_of hs hf, Bool.and_true]
theorem holdK0 (ls : List Int) : holdK 0 (outL 1 ls) = (outL 1 ls).filter gkind := by
  unfold holdK
  apply List.filter_congr
  intro o ho
  have := srt_ge (outL_srt ls 1) o ho
  have : decide (0 ≤ o.at_) = true := by simp; omega
  rw [this, Bool.and_true]
theorem holdC0 (ls : List Int) : holdC 0 0 (outL 1 ls) = 0 := by
  rw [holdC_rel]
  have : (outL 1 ls).filter (fun o => gkind o && decide (o.at_ < 0)) = [] := by
    rw [List.filter_eq_nil_iff]
    intro o ho
    have := srt_ge (outL_srt ls 1) o ho
    simp; intro _; omega
  rw [this]; rfl
noncomputable def gout (ls : List Int) : List OutD := (outL 1 ls).filter gkind
theorem gout_srt (ls : List Int) : srt 1 (gout ls) := srt_filter _ (outL_srt ls 1)
theorem gout_fits (ls : List Int) : ∀ o ∈ gout ls, fitsB o = true := fun o ho => outL_fits ls 1 o (List.mem_filter.1 ho).1 (List.mem_filter.1 ho).2
theorem gout_len (ls : List Int) : (gout ls).length ≤ ls.length := by
  have := List.length_filter_le gkind (outL 1 ls)
  rw [outL_len] at this
  exact this
theorem hold0_ok (ls : List Int) (hl : ls.length ≤ 100000) : Meets Try.prog 48 [.st [.sl 4 false [], .int .u64 0, .int .u64 0], .sl 4 false (outs (outL 1 ls))] (.tup [gateV (gout ls) 0 0, .bool true]) := by
  have h := hold_ok [] (outL 1 ls) 0 0 (by simp) (by rw [outL_len]; exact hl)
  rw [hold_eq (holdB_of (l := []) (b := 1) trivial (by simp) (outL_srt ls 1) (outL_fits ls 1) (by simp)), holdK0, holdC0] at h
  exact h
/-- the gate behind a release -/
noncomputable def gaL (ls : List Int) (m : Int) : List OutD := if 0 < m then (gout ls).filter fun o => decide (m ≤ o.at_) else gout ls
noncomputable def gaC (ls : List Int) (m : Int) : Int := if 0 < m then relC 0 ((gout ls).filter fun o => decide (o.at_ < m)) else 0
noncomputable def gaR (ls : List Int) (m : Int) : List (OutD × Int) := if 0 < m then relL 0 ((gout ls).filter fun o => decide (o.at_ < m)) else []
theorem gaL_len (ls : List Int) (m : Int) : (gaL ls m).length ≤ ls.length := by
  have := gout_len ls
  unfold gaL
  split
  · have := List.length_filter_le (fun o : OutD => decide (m ≤ o.at_)) (gout ls); omega
  · exact this
theorem rel0_ok (ls : List Int) (m : Int) (hl : ls.length ≤ 100000) : Meets Try.prog 50 [gateV (gout ls) 0 0, .int .u64 m] (.tup [gateV (gaL ls m) (max 0 m) (gaC ls m), .sl 5 false (rels (gaR ls m))]) := by
  have hgl := gout_len ls
  have h := release_ok (gout ls) 0 0 m (by omega)
  have hv : validB 0 (gout ls) = true := validB_of (srt_mono (gout_srt ls) (by omega)) (gout_fits ls)
  by_cases hm : 0 < m
  · obtain ⟨h1, h2⟩ := early_srt m (gout_srt ls)
    rw [rel_eq (by simp [relB, hv, hm]), h2, h1] at h
    simp only [gaL, gaC, gaR, if_pos hm]
    rw [Int.max_eq_right (by omega)]
    exact h
  · rw [rel_eq0 (by simp [relB, hv]; omega)] at h
    simp only [gaL, gaC, gaR, if_neg hm]
    rw [Int.max_eq_left (by omega)]
    exact h
theorem relE_ok (m : Int) : Meets Try.prog 50 [.st [.sl 4 false [], .int .u64 0, .int .u64 0], .int .u64 m] (.tup [.st [.sl 4 false [], .int .u64 (max 0 m), .int .u64 0], .sl 5 false []]) := by
  have h := release_ok [] 0 0 m (by simp)
  by_cases hm : 0 < m
  · rw [rel_eq (by simp [relB, validB, hm])] at h
    rw [Int.max_eq_right (by omega)]
    exact h
  · rw [rel_eq0 (by simp [relB, validB]; omega)] at h
    rw [Int.max_eq_left (by omega)]
    exact h
theorem holdL_ok (ls : List Int) (m : Int) (hl : ls.length ≤ 100000) : Meets Try.prog 48 [.st [.sl 4 false [], .int .u64 (max 0 m), .int .u64 0], .sl 4 false (outs (outL 1 ls))] (.tup [gateV (gaL ls m) (max 0 m) (gaC ls m), .bool true]) := by
  have h := hold_ok [] (outL 1 ls) (max 0 m) 0 (by simp) (by rw [outL_len]; exact hl)
  rw [hold_eq (holdB_of (l := []) (b := 1) trivial (by simp) (outL_srt ls 1) (outL_fits ls 1) (by simp))] at h
  by_cases hm : 0 < m
  · rw [Int.max_eq_right (by omega)] at h ⊢
    have e1 : holdK m (outL 1 ls) = gaL ls m := by
      simp only [gaL, if_pos hm, gout, holdK, List.filter_filter]
      apply List.filter_congr; intro o _; rw [Bool.and_comm]
    have e2 : holdC m 0 (outL 1 ls) = gaC ls m := by
      simp only [gaC, if_pos hm, gout, holdC_rel, List.filter_filter]
      congr 1
      apply List.filter_congr; intro o _; rw [Bool.and_comm]
    rw [e1, e2] at h
    exact h
  · rw [Int.max_eq_left (by omega)] at h ⊢
    rw [holdK0, holdC0] at h
    simp only [gaL, gaC, if_neg hm]
    exact h
end Go.Proofs.Ytnjpakhnaegdgaa
