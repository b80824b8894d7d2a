/- The two assemblers: numbers, names, registers. -/
import Derived.Test.YtjlbpkokdlggiaaDoorRefM
namespace Go.Proofs.YtjlbpkokdlggiaaDoor
open Go.Ab Go.RowKit
set_option linter.unusedSimpArgs false
set_option maxRecDepth 100000
theorem pre1_iff (s : Str) (c : UInt8) : Lib.hasPrefix s [c] = true ↔ ∃ r, s = c :: r := by
  unfold Lib.hasPrefix
  rw [List.isPrefixOf_iff_prefix]
  exact ⟨fun ⟨t, h⟩ => ⟨t, h.symm⟩, fun ⟨t, h⟩ => ⟨t, h.symm⟩⟩
theorem pre2_iff (s : Str) (c d : UInt8) : Lib.hasPrefix s [c, d] = true ↔ ∃ r, s = c :: d :: r := by
  unfold Lib.hasPrefix
  rw [List.isPrefixOf_iff_prefix]
  exact ⟨fun ⟨t, h⟩ => ⟨t, h.symm⟩, fun ⟨t, h⟩ => ⟨t, h.symm⟩⟩
theorem trim1 (c : UInt8) (r : Str) : Lib.trimPrefix (c :: r) [c] = r := by
  unfold Lib.trimPrefix
  rw [if_pos ((pre1_iff _ _).2 ⟨r, rfl⟩)]; rfl
theorem pn_num (s : Str) : pnD s = if (numX s).2 = true then some (numX s).1 else none := by
  by_cases hx : 2 < s.length ∧ s.getD 0 0 = 48 ∧ s.getD 1 0 = 120
  · obtain ⟨h1, h2, h3⟩ := hx
    match s, h1, h2, h3 with
    | a :: b :: r, h1, h2, h3 =>
      simp only [List.getD_cons_zero, List.getD_cons_succ] at h2 h3
      subst h2 h3
      have hp : Lib.hasPrefix (48 :: 120 :: r) [48, 120] = true := (pre2_iff _ _ _).2 ⟨r, rfl⟩
      have hn : numX (48 :: 120 :: r) = if 10 < r.length + 2 then (0, false) else match digs 16 r 0 with
          | some n => ((n : Int), true)
          | none => (0, false) := by
        unfold numX; rw [if_pos ⟨h1, rfl, rfl⟩]; rfl
      rw [hn]
      unfold pnD
      rw [if_pos hp]
      simp only [List.drop_succ_cons, List.drop_zero, pdD]
      simp only [List.length_cons] at h1
      by_cases hl : 8 < r.length
      · have a1 : r.length < 1 ∨ 8 < r.length := by omega
        have a2 : 10 < r.length + 2 := by omega
        simp only [if_pos a1, if_pos a2]; rfl
      · have a1 : ¬ (r.length < 1 ∨ 8 < r.length) := by omega
        have a2 : ¬ 10 < r.length + 2 := by omega
        simp only [if_neg a1, if_neg a2]
        cases digs 16 r 0 <;> rfl
  · have hn : numX s = if s.length - (if s.getD 0 0 = 45 then 1 else 0) < 1 ∨ 10 < s.length - (if s.getD 0 0 = 45 then 1 else 0) then (0, false)
        else match digs 10 (s.drop (if s.getD 0 0 = 45 then 1 else 0)) 0 with
          | none => (0, false)
          | some n => if s.getD 0 0 = 45 then (-(n : Int), decide (-2147483648 ≤ -(n : Int)) && decide (-(n : Int) ≤ 4294967295)) else ((n : Int), decide (-2147483648 ≤ (n : Int)) && decide ((n : Int) ≤ 4294967295)) := by
      unfold numX; exact if_neg hx
    rw [hn]
    by_cases hp : Lib.hasPrefix s [48, 120] = true
    · obtain ⟨r, rfl⟩ := (pre2_iff _ _ _).1 hp
      have hr : r = [] := by
        cases r with
        | nil => rfl
        | cons c r => exact absurd ⟨by simp, rfl, rfl⟩ hx
      subst hr
      decide +kernel
    · unfold pnD
      rw [if_neg hp]
      by_cases hm : s.getD 0 0 = 45
      · cases s with
        | nil => simp at hm
        | cons c r =>
          simp only [List.getD_cons_zero] at hm
          subst hm
          have hp1 : Lib.hasPrefix (45 :: r) [45] = true := (pre1_iff _ _).2 ⟨r, rfl⟩
          rw [trim1, hp1]
          simp only [List.getD_cons_zero, if_true, pdD, List.length_cons, List.drop_succ_cons, List.drop_zero, Nat.add_sub_cancel]
          by_cases hl : r.length < 1 ∨ 10 < r.length
          · rw [if_pos hl, if_pos hl]; rfl
          · rw [if_neg hl, if_neg hl]
            cases digs 10 r 0 with
            | none => rfl
            | some n =>
              simp only
              by_cases hb : -2147483648 ≤ -(n : Int)
              · rw [if_neg (by omega), if_pos (by simp; omega)]
              · rw [if_pos (by omega), if_neg (by simp; omega)]
      · have hp1 : ¬ Lib.hasPrefix s [45] = true := fun q => by
          obtain ⟨r, rfl⟩ := (pre1_iff _ _).1 q
          simp at hm
        have ht : Lib.trimPrefix s [45] = s := by unfold Lib.trimPrefix; rw [if_neg hp1]
        rw [ht]
        simp only [if_neg hm, if_neg hp1, pdD, Nat.sub_zero, List.drop_zero]
        by_cases hl : s.length < 1 ∨ 10 < s.length
        · rw [if_pos hl, if_pos hl]; rfl
        · rw [if_neg hl, if_neg hl]
          cases digs 10 s 0 with
          | none => rfl
          | some n =>
            simp only
            by_cases hb : (n : Int) ≤ 4294967295
            · rw [if_neg (by omega), if_pos (by simp; omega)]
            · rw [if_pos (by omega), if_neg (by simp; omega)]
theorem dig_word {base : Nat} {c : UInt8} {d : Nat} (h : dig base c = some d) : wordC c = true := by
  rw [word_iff]
  unfold dig at h
  split at h
  · omega
  · split at h
    · omega
    · simp at h
theorem dig10 {c : UInt8} {d : Nat} (h : dig 10 c = some d) : digB c = true := by
  rw [dig_iff]
  unfold dig at h
  split at h
  · omega
  · split at h
    · omega
    · simp at h
theorem digs_word {base : Nat} : ∀ {s : Str} {x y : Nat}, digs base s x = some y → s.all wordC = true
  | [], _, _, _ => rfl
  | c :: s, x, y, h => by
    simp only [digs] at h
    split at h
    · rename_i d hd
      simp only [List.all_cons, dig_word hd, digs_word h, Bool.and_self]
    · simp at h
/-- what is a number is one token -/
theorem num_kind {s : Str} (h : (numX s).2 = true) : kindW s = some 2 := by
  unfold numX at h
  split at h
  · rename_i hx
    obtain ⟨h1, h2, h3⟩ := hx
    match s, h1, h2, h3 with
    | a :: b :: r, h1, h2, h3 =>
      simp only [List.getD_cons_zero, List.getD_cons_succ] at h2 h3
      subst h2 h3
      split at h
      · simp at h
      · simp only [List.drop_succ_cons, List.drop_zero] at h
        split at h
        · rename_i n hn
          have := digs_word hn
          have e1 : letB 48 = false := by decide
          have e2 : digB 48 = true := by decide
          have e3 : wordC 120 = true := by decide
          simp [kindW, e1, e2, e3]
          simpa using this
        · simp at h
  · by_cases hm : s.getD 0 0 = 45
    · simp only [if_pos hm] at h
      split at h
      · simp at h
      · split at h
        · simp at h
        · rename_i n hn
          cases s with
          | nil => simp at hm
          | cons c r =>
            simp only [List.getD_cons_zero] at hm
            subst hm
            have := digs_word hn
            simp only [List.drop_succ_cons, List.drop_zero] at this
            have e1 : letB 45 = false := by decide
            simp only [kindW, e1, Bool.false_eq_true, false_and, if_false]
            rw [if_pos ⟨.inr rfl, this⟩]
    · simp only [if_neg hm] at h
      split at h
      · simp at h
      · rename_i hl
        split at h
        · simp at h
        · rename_i n hn
          cases s with
          | nil => simp at hl
          | cons c r =>
            simp only [List.drop_zero] at hn
            have hd : digB c = true := by
              simp only [digs] at hn
              split at hn
              · rename_i d hd; exact dig10 hd
              · simp at hn
            have ha := digs_word hn
            simp only [List.all_cons, Bool.and_eq_true] at ha
            have e1 : letB c = false := by
              rw [← Bool.not_eq_true, let_iff]; have := dig_iff.1 hd; omega
            simp only [kindW, e1, Bool.false_eq_true, false_and, if_false]
            rw [if_pos ⟨.inl hd, ha.2⟩]
theorem reg_kind {s : Str} {q : Nat} (h : regN s = some q) : kindW s = some 1 := by
  have hm : s ∈ regNames := by
    have : ∀ (l : List Str) (k : Nat), findI s l k = some q → s ∈ l := by
      intro l
      induction l with
      | nil => intro k h; simp [findI] at h
      | cons x r ih =>
        intro k h
        simp only [findI] at h
        split at h
        · rename_i e; rw [e]; exact List.mem_cons_self ..
        · exact List.mem_cons_of_mem _ (ih _ h)
    exact this regNames 0 h
  have hall : ∀ x ∈ regNames, kindW x = some 1 := by decide
  exact hall s hm
theorem nameC_word : nameC = wordC := by
  funext c
  simp [nameC, wordC, letB, digB]
theorem isName_iff (w : Str) : isNameD w = true ↔ kindW w = some 1 ∧ nameD w = true := by
  cases w with
  | nil => simp [isNameD, kindW]
  | cons c r =>
    simp only [isNameD, nameD, kindW, nameC_word, Bool.and_eq_true, decide_eq_true_eq, List.getD_cons_zero, List.all_cons, List.length_cons]
    constructor
    · rintro ⟨⟨⟨⟨h1, h2⟩, h3⟩, h4, h5⟩, h6⟩
      have hl : letB c = true := let_iff.2 h3
      exact ⟨by rw [if_pos ⟨hl, h5⟩], ⟨⟨h1, h2⟩, hl⟩, h6⟩
    · rintro ⟨h, ⟨⟨h1, h2⟩, h3⟩, h4⟩
      split at h
      · rename_i q
        exact ⟨⟨⟨⟨h1, h2⟩, let_iff.1 h3⟩, word_iff.2 (.inl (let_iff.1 h3)), q.2⟩, h4⟩
      · split at h <;> simp at h
/-- the value of an operand, said of the word's kind -/
theorem pv_kind (w : Str) (n : Bool) : pvD w n = if n = true ∧ kindW w = some 1 ∧ nameD w = true then some (0, w) else if (numX w).2 = true then some ((numX w).1, []) else none := by
  unfold pvD
  by_cases h : n = true ∧ isNameD w = true
  · rw [if_pos (by simpa using h), if_pos ⟨h.1, (isName_iff w).1 h.2⟩]
  · rw [if_neg (by simpa using h), if_neg (fun q => h ⟨q.1, (isName_iff w).2 q.2⟩), pn_num]
    split <;> rfl
end Go.Proofs.YtjlbpkokdlggiaaDoor
