/- Package asm: skip, cutPrefix, cutWord, of any text. (Numbers of seat r2.D.) -/
import Derived.Test.YtjlbpkokdlggiaaDoorAny2
namespace Go.Proofs.YtjlbpkokdlggiaaDoor
open Go.Ab Go.RowKit
set_option linter.unusedSimpArgs false
set_option maxRecDepth 100000
/-- any text -/
def okText (_ : Str) : Prop := True
theorem any_ok (s : Str) (_ : okText s) (hl : s.length < 4294967281) : Meets Tryd.prog 114 [.str s, .str seps] (.int .i64 (Lib.indexAny s seps)) := anyAll_ok s hl
def sepB (c : UInt8) : Bool := seps.contains c
def wordD (s : Str) : Str := s.takeWhile fun c => !sepB c
def afterD (s : Str) : Str := s.dropWhile fun c => !sepB c
theorem indexAny_spec : ∀ s : Str, (Lib.indexAny s seps = -1 ∧ wordD s = s ∧ afterD s = []) ∨ (0 ≤ Lib.indexAny s seps ∧ Lib.indexAny s seps < s.length ∧ wordD s = s.take (Lib.indexAny s seps).toNat ∧ afterD s = s.drop (Lib.indexAny s seps).toNat)
  | [] => .inl ⟨rfl, rfl, rfl⟩
  | c :: s => by
    by_cases hc : seps.contains c = true
    · right
      have h1 : Lib.indexAny (c :: s) seps = 0 := by simp only [Lib.indexAny, hc, if_true]
      have h2 : (!sepB c) = false := by unfold sepB; rw [hc]; rfl
      rw [h1]
      refine ⟨Int.le_refl _, by simp, ?_, ?_⟩
      · simp [wordD, List.takeWhile_cons, h2]
      · simp [afterD, List.dropWhile_cons, h2]
    · have hc' : seps.contains c = false := by simpa using hc
      have h2 : (!sepB c) = true := by unfold sepB; rw [hc']; rfl
      have hw : wordD (c :: s) = c :: wordD s := by simp [wordD, List.takeWhile_cons, h2]
      have ha : afterD (c :: s) = afterD s := by simp [afterD, List.dropWhile_cons, h2]
      rw [hw, ha]
      rcases indexAny_spec s with ⟨h, e1, e2⟩ | ⟨h, h', e1, e2⟩
      · left
        refine ⟨?_, by rw [e1], e2⟩
        simp only [Lib.indexAny, hc', h, Bool.false_eq_true, if_false]; rfl
      · right
        have hne : (Lib.indexAny s seps == -1) = false := by simp; omega
        have h3 : Lib.indexAny (c :: s) seps = Lib.indexAny s seps + 1 := by simp only [Lib.indexAny, hc', hne, Bool.false_eq_true, if_false]
        rw [h3]
        refine ⟨by omega, by simp only [List.length_cons]; omega, ?_, ?_⟩
        · rw [e1, show (Lib.indexAny s seps + 1).toNat = (Lib.indexAny s seps).toNat + 1 by omega]; rfl
        · rw [e2, show (Lib.indexAny s seps + 1).toNat = (Lib.indexAny s seps).toNat + 1 by omega]; rfl
theorem cutWord_ok (s : Str) (ha : okText s) (hl : s.length < 4294967281) : Meets Tryd.prog 95 [.str s] (.tup [.str (wordD s), .str (afterD s)]) := by
  refine Meets.of Tryd.func95 rfl (by kernel_rfl) rfl ?_
  simp only [Tryd.ntmps95, St.start, argT]
  refine au  ?_
  repeat intro K hK
  refine wr ?_
  refine ca (any_ok s ha hl)  ?_
  refine au  ?_
  repeat intro K hK
  refine wr ?_
  rcases indexAny_spec s with ⟨q, e1, e2⟩ | ⟨q, q', e1, e2⟩
  · refine awp_cond rfl (fun h => by simp [q] at h) (fun _ => ?_)
    refine au  ?_
    repeat intro K hK
    refine wr ?_
    refine awp_ret ?_
    simp [e1, e2]
  · refine awp_cond rfl (fun _ => ?_) (fun h => by simp [q] at h)
    refine au  ?_
    repeat intro K hK
    refine wr ?_
    refine awp_planI ([0, 1, 2, 3, 4, 5, 6, 7] : List Nat) ([[], [], [0, 1], [], [], [3, 4], [0, 1, 2], [0, 1, 2, 3, 4, 5, 6]] : List (List Nat)) ([(7, ([[], [], [0, 1], [], [], [3, 4], [0, 1, 2]], [])), (1, ([], []))] : List (Nat × List (List Nat) × List (Nat × Nat))) (by kernel_rfl) (by kernel_rfl) (by kernel_rfl) ?_
    refine af  ?_
    repeat intro K hK
    refine wr ?_
    refine awp_ret ?_
    simp [e1, e2]
end Go.Proofs.YtjlbpkokdlggiaaDoor
