/- The document's assembler: lines, tokens. (Numbers of seat r2.D.) -/
import Derived.Test.YtjlbpkokdlggiaaDoorRefC
namespace Go.Proofs.YtjlbpkokdlggiaaDoor
open Go.Ab Go.RowKit
set_option linter.unusedSimpArgs false
set_option maxRecDepth 100000
def linesR (s : Str) : List Str := (linesD s).dropLast ++ (if (linesD s).getLast?.getD [] = [] then [] else [(linesD s).getLast?.getD []])
theorem linesR_of {s : Str} {xs : List Str} {y : Str} (h : xs ++ [y] = linesD s) : linesR s = xs ++ (if y = [] then [] else [y]) := by
  unfold linesR
  rw [← h]
  simp
set_option maxHeartbeats 16000000 in
theorem lines_ok (s : Str) (hl : s.length ≤ 1000000) : Meets Tryd.prog 82 [.str s] (.new 9 1 (strs (linesR s))) := by
  refine Meets.of Tryd.func82 rfl (by kernel_rfl) rfl ?_
  simp only [Tryd.ntmps82, St.start, argT]
  refine au  ?_
  repeat intro K hK
  refine wr ?_
  refine awp_nilOwn 3 9 1 (by decide) rfl ?_
  obtain ⟨I, hI⟩ : ∃ I : Nat → St → Prop, I = (fun kk ss => ∃ (i : Nat) (f : Nat) (xs : List Str), i ≤ s.length ∧ kk = s.length - i ∧ (f ≤ i ∧ xs ++ joinH ((s.take i).drop f) (linesD (s.drop i)) = linesD s ∧ xs.length ≤ i) ∧ ss = ⟨36, [(5, .int .i64 i), (4, .int .i64 f), (3, .own 0), (0, .str s)], 1, [(0, some ⟨9, 1, false, false, strs xs⟩)], 0⟩) := ⟨_, rfl⟩
  refine awp_loopA I (k0 := s.length) (st0 := (fun (i : Nat) (f : Nat) (xs : List Str) => (⟨36, [(5, .int .i64 i), (4, .int .i64 f), (3, .own 0), (0, .str s)], 1, [(0, some ⟨9, 1, false, false, strs xs⟩)], 0⟩ : St)) 0 0 []) (ρ0 := id) ⟨rfl, by simp [leT, ltV, lt1, ren, ren1], by simp [leO, lt1, ren1], by simp, by simp⟩ (by rw [hI]; exact ⟨0, 0, [], by simp, by simp, ⟨Nat.le_refl _, by simp [joinH_nil], Nat.le_refl _⟩, rfl⟩) ?_
  intro kk ss hIk _
  rw [hI] at hIk
  obtain ⟨i, f, xs, hi, rfl, hx, rfl⟩ := hIk
  obtain ⟨hf, hxs, hxl⟩ := hx
  have hsl := sstr_len xs
  have hmx : (strs xs).length + 1 ≤ maxLen := by rw [sstr_len]; simp [maxLen]; omega
  have hw : IntKind.i64.wrap ((i : Int) + 1) = ((i + 1 : Nat) : Int) := by rw [wrap_i64_in (by omega) (by omega)]; omega
  have hm16 : (xs.length + 1) * 16 ≤ 140737488355328 := by omega
  refine au  ?_
  repeat intro K hK
  refine wr ?_
  by_cases hi' : i < s.length
  · obtain ⟨c, hc⟩ : ∃ c, c = s.getD i 0 := ⟨_, rfl⟩
    have hcc : s[i]?.getD 0 = c := by rw [hc, List.getD_eq_getElem?_getD]
    have hdr : s.drop i = c :: s.drop (i + 1) := by rw [List.drop_eq_getElem_cons hi', hc, List.getD_eq_getElem?_getD, List.getElem?_eq_getElem hi']; rfl
    rw [hdr] at hxs
    refine awp_cond rfl (fun _ => ?_) (fun h => by simp [hi'] at h)
    refine au1 @hcc ?_
    repeat intro K hK
    refine wr ?_
    by_cases h10 : c = 10
    · subst h10
      rw [joinH_end] at hxs
      have hxa : (xs ++ [(s.take i).drop f]) ++ joinH ((s.take (i + 1)).drop (i + 1)) (linesD (s.drop (i + 1))) = linesD s := by
        have e0 : (s.take (i + 1)).drop (i + 1) = [] := List.drop_eq_nil_of_le (by simp; omega)
        rw [e0, joinH_nil, List.append_assoc]; exact hxs
      have hone := strs_one xs ((s.take i).drop f)
      refine awp_cond rfl (fun _ => ?_) (fun h => by simp at h)
      refine au5 @hw @hsl @hmx @hm16 @hone ?_
      repeat intro K hK
      refine wr ?_
      refine again_of (s.length - (i + 1)) ((fun (i : Nat) (f : Nat) (xs : List Str) => (⟨36, [(5, .int .i64 i), (4, .int .i64 f), (3, .own 0), (0, .str s)], 1, [(0, some ⟨9, 1, false, false, strs xs⟩)], 0⟩ : St)) (i + 1) (i + 1) (xs ++ [(s.take i).drop f])) (fun x => if x = 0 then 2 else x) (by omega) (by rw [hI]; exact ⟨i + 1, (i + 1), (xs ++ [(s.take i).drop f]), by omega, rfl, ⟨Nat.le_refl _, hxa, by simp; omega⟩, rfl⟩) ⟨rfl, ?_, ?_, ?_, by simp⟩
      · simp [leT, ltV, lt1, ren, ren1, wrap_i64_in (n := (i : Int) + 1) (by omega) (by omega), hw]
      · simp [leO, lt1, ren1, hw]
      · (simp; try omega)
    · have hne : ¬ ((c.toNat : Int) = 10) := by
        intro e
        apply h10
        have : c.toNat = (10 : UInt8).toNat := by simp; omega
        exact UInt8.toNat_inj.1 this
      rw [joinH_snoc _ _ _ h10, hc, ← take_drop_snoc hf hi'] at hxs
      refine awp_cond rfl (fun h => by simp [hne] at h) (fun _ => ?_)
      refine au  ?_
      repeat intro K hK
      refine wr ?_
      refine again_of (s.length - (i + 1)) ((fun (i : Nat) (f : Nat) (xs : List Str) => (⟨36, [(5, .int .i64 i), (4, .int .i64 f), (3, .own 0), (0, .str s)], 1, [(0, some ⟨9, 1, false, false, strs xs⟩)], 0⟩ : St)) (i + 1) f xs) (id) (by omega) (by rw [hI]; exact ⟨i + 1, f, xs, by omega, rfl, ⟨by omega, hxs, by omega⟩, rfl⟩) ⟨rfl, ?_, ?_, ?_, by simp⟩
      · simp [leT, ltV, lt1, ren, ren1, wrap_i64_in (n := (i : Int) + 1) (by omega) (by omega), hw]
      · simp [leO, lt1, ren1, hw]
      · (simp; try omega)
  · have hil : i = s.length := by omega
    subst hil
    rw [List.drop_length, List.take_length] at hxs
    simp only [linesD, joinH, List.append_nil] at hxs
    have hr := linesR_of hxs
    have hone := strs_one xs (s.drop f)
    by_cases hfl : f < s.length
    · have hne : ¬ s.drop f = [] := by
        intro e
        have := congrArg List.length e
        simp at this
        omega
      rw [if_neg hne] at hr
      refine awp_cond rfl (fun h => by simp at h) (fun _ => ?_)
      refine au  ?_
      repeat intro K hK
      refine wr ?_
      refine awp_cond rfl (fun _ => ?_) (fun h => by simp [hfl] at h)
      refine au4 @hsl @hmx @hm16 @hone ?_
      repeat intro K hK
      refine wr ?_
      refine awp_ret ?_
      simp [hr]
    · have he : s.drop f = [] := List.drop_eq_nil_of_le (by omega)
      rw [if_pos he] at hr
      refine awp_cond rfl (fun h => by simp at h) (fun _ => ?_)
      refine au  ?_
      repeat intro K hK
      refine wr ?_
      refine awp_cond rfl (fun h => by simp [hfl] at h) (fun _ => ?_)
      refine au  ?_
      repeat intro K hK
      refine wr ?_
      refine awp_ret ?_
      simp [hr]
end Go.Proofs.YtjlbpkokdlggiaaDoor
