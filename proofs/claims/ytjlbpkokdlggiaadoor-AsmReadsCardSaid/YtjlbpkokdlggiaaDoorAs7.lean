/- Package asm: the lines of a source. (Numbers of seat r2.D.) -/
import Derived.Test.YtjlbpkokdlggiaaDoorAs6
namespace Go.Proofs.YtjlbpkokdlggiaaDoor
open Go.Ab Go.RowKit
set_option linter.unusedSimpArgs false
set_option maxRecDepth 100000
def linesD : Str → List Str
  | [] => [[]]
  | c :: s => if c = 10 then [] :: linesD s else match linesD s with
    | [] => []
    | h :: t => (c :: h) :: t
def joinH (p : Str) : List Str → List Str
  | [] => []
  | h :: t => (p ++ h) :: t
theorem lines_cons (s : Str) : ∃ h t, linesD s = h :: t := by
  induction s with
  | nil => exact ⟨_, _, rfl⟩
  | cons c s ih =>
    obtain ⟨h, t, e⟩ := ih
    simp only [linesD, e]
    split <;> exact ⟨_, _, rfl⟩
theorem joinH_nil (l : List Str) : joinH [] l = l := by cases l <;> rfl
theorem joinH_snoc (p : Str) (c : UInt8) (s : Str) (hc : c ≠ 10) : joinH p (linesD (c :: s)) = joinH (p ++ [c]) (linesD s) := by
  obtain ⟨h, t, e⟩ := lines_cons s
  simp [linesD, e, hc, joinH]
theorem joinH_end (p : Str) (s : Str) : joinH p (linesD (10 :: s)) = p :: linesD s := by
  simp [linesD, joinH]
theorem lines_len (s : Str) : (linesD s).length ≤ s.length + 1 := by
  induction s with
  | nil => simp [linesD]
  | cons c s ih =>
    obtain ⟨h, t, e⟩ := lines_cons s
    simp only [linesD, e]
    rw [e] at ih
    split <;> (simp at ih ⊢; omega)
theorem lines_mem (s : Str) : ∀ l ∈ linesD s, l.length ≤ s.length ∧ ∀ c ∈ l, c ∈ s := by
  induction s with
  | nil => simp [linesD]
  | cons c s ih =>
    obtain ⟨h, t, e⟩ := lines_cons s
    simp only [linesD, e]
    rw [e] at ih
    intro l hl
    split at hl
    · rcases List.mem_cons.1 hl with rfl | hl
      · simp
      · obtain ⟨h1, h2⟩ := ih l hl
        exact ⟨by simp; omega, fun x hx => List.mem_cons_of_mem _ (h2 x hx)⟩
    · rcases List.mem_cons.1 hl with rfl | hl
      · obtain ⟨h1, h2⟩ := ih h (List.mem_cons_self ..)
        refine ⟨by simp; omega, fun x hx => ?_⟩
        rcases List.mem_cons.1 hx with rfl | hx
        · exact List.mem_cons_self ..
        · exact List.mem_cons_of_mem _ (h2 x hx)
      · obtain ⟨h1, h2⟩ := ih l (List.mem_cons_of_mem _ hl)
        exact ⟨by simp; omega, fun x hx => List.mem_cons_of_mem _ (h2 x hx)⟩
@[simp] theorem strs_nil : strs [] = [] := rfl
def splitD (s : Str) : List Str := (linesD s).map fun l => befD l 59
theorem take_drop_snoc {s : Str} {f i : Nat} (hf : f ≤ i) (hi : i < s.length) : (s.take (i + 1)).drop f = (s.take i).drop f ++ [s.getD i 0] := by
  rw [List.take_add_one, List.drop_append, List.getD_eq_getElem?_getD, List.getElem?_eq_getElem hi, List.length_take, show f - min i s.length = 0 by omega]
  rfl
theorem joinH_skip {s : Str} {f p : Nat} (hf : f ≤ p) : ∀ (w : Nat), p + w ≤ s.length → (∀ j, j < w → 128 ≤ (s.getD (p + j) 0).toNat) → joinH ((s.take p).drop f) (linesD (s.drop p)) = joinH ((s.take (p + w)).drop f) (linesD (s.drop (p + w)))
  | 0, _, _ => rfl
  | w + 1, hl, h => by
    rw [joinH_skip hf w (by omega) fun j hj => h j (by omega)]
    have hi : p + w < s.length := by omega
    have hdr : s.drop (p + w) = s.getD (p + w) 0 :: s.drop (p + w + 1) := by rw [List.drop_eq_getElem_cons hi, List.getD_eq_getElem?_getD, List.getElem?_eq_getElem hi]; rfl
    have h10 : s.getD (p + w) 0 ≠ 10 := fun e => by have := h w (by omega); rw [e] at this; exact absurd this (by decide)
    rw [hdr, joinH_snoc _ _ _ h10, ← take_drop_snoc (by omega) hi]
    rfl
set_option maxHeartbeats 16000000 in
theorem split_ok (s : Str) (_ : okText s) (hl : s.length < 4294967281) : Meets Tryd.prog 62 [.str s] (.new 9 1 (strs (splitD s))) := by
  refine Meets.of Tryd.func62 rfl (by kernel_rfl) rfl ?_
  simp only [Tryd.ntmps62, St.start, argT]
  refine au  ?_
  repeat intro K hK
  refine wr ?_
  refine awp_nilOwn 3 9 1 (by decide) rfl ?_
  obtain ⟨I, hI⟩ : ∃ I : Nat → St → Prop, I = (fun kk ss => ∃ (i : Nat) (p f : Nat) (xs : List Str), i ≤ s.length ∧ kk = s.length - i ∧ (i ≤ p ∧ p ≤ s.length ∧ f ≤ p ∧ xs ++ joinH ((s.take p).drop f) (linesD (s.drop p)) = linesD s ∧ xs.length ≤ p) ∧ ss = ⟨50, [(10, .itr 0), (4, .int .i64 f), (3, .own 1), (0, .str s)], 2, [(0, some ⟨0, 2, false, false, [[.str s, .int .i64 p]]⟩), (1, some ⟨9, 1, false, false, strs xs⟩)], 0⟩) := ⟨_, rfl⟩
  refine awp_loopA I (k0 := s.length) (st0 := (fun (i : Nat) (p f : Nat) (xs : List Str) => (⟨50, [(10, .itr 0), (4, .int .i64 f), (3, .own 1), (0, .str s)], 2, [(0, some ⟨0, 2, false, false, [[.str s, .int .i64 p]]⟩), (1, some ⟨9, 1, false, false, strs xs⟩)], 0⟩ : St)) 0 0 0 []) (ρ0 := id) ⟨rfl, by simp [leT, ltV, lt1, ren, ren1], by simp [leO, lt1, ren1], by simp, by simp⟩ (by rw [hI]; exact ⟨0, 0, 0, [], by simp, by simp, ⟨Nat.le_refl _, Nat.zero_le _, Nat.le_refl _, by simp [joinH_nil], Nat.le_refl _⟩, rfl⟩) ?_
  intro kk ss hIk _
  rw [hI] at hIk
  obtain ⟨i, p, f, xs, hi, rfl, hx, rfl⟩ := hIk
  obtain ⟨hip, hpl, hf, hxs, hxl⟩ := hx
  have hsl := sstr_len xs
  have hmx : (strs xs).length + 1 ≤ maxLen := by rw [sstr_len]; simp [maxLen]; omega
  by_cases hi : p < s.length
  · obtain ⟨c, hc⟩ : ∃ c, c = s.getD p 0 := ⟨_, rfl⟩
    have hdr : s.drop p = c :: s.drop (p + 1) := by rw [List.drop_eq_getElem_cons hi, hc, List.getD_eq_getElem?_getD, List.getElem?_eq_getElem hi]; rfl
    have hw : IntKind.i64.wrap ((p : Int) + 1) = ((p + 1 : Nat) : Int) := by rw [wrap_i64_in (by omega) (by omega)]; omega
    by_cases hca : c.toNat < 128
    · have hru := rune_ascii s p hi (by rw [← hc]; exact hca)
      rw [← hc] at hru
      have hnx : nxV s p = .tup [.bool true, .int .i64 p, .int .i32 c.toNat] := by unfold nxV; rw [if_pos hi, hru]
      have hnp : nxP s p = p + 1 := by unfold nxP; rw [if_pos hi, hru]
      rw [hdr] at hxs
      refine au2 @hnx @hnp ?_
      repeat intro K hK
      refine wr ?_
      refine awp_cond rfl (fun _ => ?_) (fun h => by simp at h)
      refine au2 @hnx @hnp ?_
      repeat intro K hK
      refine wr ?_
      by_cases h10 : c = 10
      · subst h10
        rw [joinH_end] at hxs
        have hxa : (xs ++ [(s.take p).drop f]) ++ joinH ((s.take (p + 1)).drop (p + 1)) (linesD (s.drop (p + 1))) = linesD s := by
          have e0 : (s.take (p + 1)).drop (p + 1) = [] := List.drop_eq_nil_of_le (by simp; omega)
          rw [e0, joinH_nil, List.append_assoc]; exact hxs
        refine awp_cond rfl (fun _ => ?_) (fun h => by simp at h)
        refine au2 @hw @strs_one ?_
        repeat intro K hK
        refine wr ?_
        refine again_of (s.length - (i + 1)) ((fun (i : Nat) (p f : Nat) (xs : List Str) => (⟨50, [(10, .itr 0), (4, .int .i64 f), (3, .own 1), (0, .str s)], 2, [(0, some ⟨0, 2, false, false, [[.str s, .int .i64 p]]⟩), (1, some ⟨9, 1, false, false, strs xs⟩)], 0⟩ : St)) (i + 1) (p + 1) (p + 1) (xs ++ [(s.take p).drop f])) (fun x => if x = 1 then 3 else x) (by omega) (by rw [hI]; exact ⟨i + 1, (p + 1), (p + 1), (xs ++ [(s.take p).drop f]), by omega, rfl, ⟨by omega, by omega, Nat.le_refl _, hxa, by simp; omega⟩, rfl⟩) ⟨rfl, ?_, ?_, ?_, by simp⟩
        · simp [leT, ltV, lt1, ren, ren1, wrap_i64_in (n := (i : Int) + 1) (by omega) (by omega), hnp, hw]
        · simp [leO, lt1, ren1, hnp, hw]
        · (simp; try omega)
      · have hne : ¬ ((c.toNat : Int) = 10) := by
          intro e
          apply h10
          have : c.toNat = (10 : UInt8).toNat := by simp; omega
          exact UInt8.toNat_inj.1 this
        rw [joinH_snoc _ _ _ h10, hc, ← take_drop_snoc hf hi] at hxs
        refine awp_cond rfl (fun h => by simp [hne] at h) (fun _ => ?_)
        refine au  ?_
        repeat intro K hK
        refine wr ?_
        refine again_of (s.length - (i + 1)) ((fun (i : Nat) (p f : Nat) (xs : List Str) => (⟨50, [(10, .itr 0), (4, .int .i64 f), (3, .own 1), (0, .str s)], 2, [(0, some ⟨0, 2, false, false, [[.str s, .int .i64 p]]⟩), (1, some ⟨9, 1, false, false, strs xs⟩)], 0⟩ : St)) (i + 1) (p + 1) f xs) (id) (by omega) (by rw [hI]; exact ⟨i + 1, (p + 1), f, xs, by omega, rfl, ⟨by omega, by omega, by omega, hxs, by omega⟩, rfl⟩) ⟨rfl, ?_, ?_, ?_, by simp⟩
        · simp [leT, ltV, lt1, ren, ren1, wrap_i64_in (n := (i : Int) + 1) (by omega) (by omega), hnp]
        · simp [leO, lt1, ren1, hnp]
        · (simp; try omega)
    · obtain ⟨r, w, hru, r1, _, _, w1, w2, w3⟩ := rune_high s p hi (by rw [← hc]; omega)
      have hnx : nxV s p = .tup [.bool true, .int .i64 p, .int .i32 r] := by unfold nxV; rw [if_pos hi, hru]
      have hnp : nxP s p = p + w := by unfold nxP; rw [if_pos hi, hru]
      have hne : ¬ ((r : Int) = 10) := by omega
      rw [joinH_skip hf w w2 w3] at hxs
      refine au2 @hnx @hnp ?_
      repeat intro K hK
      refine wr ?_
      refine awp_cond rfl (fun _ => ?_) (fun h => by simp at h)
      refine au2 @hnx @hnp ?_
      repeat intro K hK
      refine wr ?_
      refine awp_cond rfl (fun h => by simp [hne] at h) (fun _ => ?_)
      refine au  ?_
      repeat intro K hK
      refine wr ?_
      refine again_of (s.length - (i + 1)) ((fun (i : Nat) (p f : Nat) (xs : List Str) => (⟨50, [(10, .itr 0), (4, .int .i64 f), (3, .own 1), (0, .str s)], 2, [(0, some ⟨0, 2, false, false, [[.str s, .int .i64 p]]⟩), (1, some ⟨9, 1, false, false, strs xs⟩)], 0⟩ : St)) (i + 1) (p + w) f xs) (id) (by omega) (by rw [hI]; exact ⟨i + 1, (p + w), f, xs, by omega, rfl, ⟨by omega, by omega, by omega, hxs, by omega⟩, rfl⟩) ⟨rfl, ?_, ?_, ?_, by simp⟩
      · simp [leT, ltV, lt1, ren, ren1, wrap_i64_in (n := (i : Int) + 1) (by omega) (by omega), hnp]
      · simp [leO, lt1, ren1, hnp]
      · (simp; try omega)
  · have hil : p = s.length := by omega
    subst hil
    have hnx : nxV s s.length = .tup [.bool false] := by unfold nxV; rw [if_neg (by omega)]
    have hnp : nxP s s.length = s.length := by unfold nxP; rw [if_neg (by omega)]
    rw [List.drop_length, List.take_length] at hxs
    simp only [linesD, joinH, List.append_nil] at hxs
    refine au2 @hnx @hnp ?_
    repeat intro K hK
    refine wr ?_
    refine awp_cond rfl (fun h => by simp at h) (fun _ => ?_)
    refine au5 @hnx @hnp @strs_one @hxs @sstr_len ?_
    repeat intro K hK
    refine wr ?_
    have hll := lines_len s
    obtain ⟨Ij, hIj⟩ : ∃ I : Nat → St → Prop, I = (fun kk ss => ∃ (j : Nat) , j ≤ (linesD s).length ∧ kk = (linesD s).length - j ∧ (True) ∧ ss = ⟨50, [(34, .int .i64 j), (33, .int .i64 (linesD s).length), (32, .own 3), (3, .own 3)], 4, [(3, some ⟨9, 1, false, false, strs (((linesD s).take j).map (fun l => befD l 59) ++ (linesD s).drop j)⟩)], 0⟩) := ⟨_, rfl⟩
    refine awp_loopA Ij (k0 := (linesD s).length) (st0 := (fun (j : Nat)  => (⟨50, [(34, .int .i64 j), (33, .int .i64 (linesD s).length), (32, .own 3), (3, .own 3)], 4, [(3, some ⟨9, 1, false, false, strs (((linesD s).take j).map (fun l => befD l 59) ++ (linesD s).drop j)⟩)], 0⟩ : St)) 0 ) (ρ0 := id) ⟨rfl, by simp [leT, ltV, lt1, ren, ren1], by simp [leO, lt1, ren1], by simp, by simp⟩ (by rw [hIj]; exact ⟨0, by simp, by simp, trivial, rfl⟩) ?_
    intro kk ss hIk _
    rw [hIj] at hIk
    obtain ⟨j, hj, rfl, hxj, rfl⟩ := hIk
    by_cases hj : j < (linesD s).length
    · obtain ⟨x, hx⟩ : ∃ x, x = (linesD s)[j] := ⟨_, rfl⟩
      have hxm : x ∈ linesD s := by rw [hx]; exact List.getElem_mem hj
      have hxl' := (lines_mem s x hxm).1
      have hget : (((linesD s).take j).map (fun l => befD l 59) ++ (linesD s).drop j)[j]? = some x := by
        rw [List.getElem?_append_right (by simp; omega), List.length_map, List.length_take, Nat.min_eq_left (by omega), Nat.sub_self, List.getElem?_drop, Nat.add_zero, List.getElem?_eq_getElem hj, hx]
      have hset : (((linesD s).take j).map (fun l => befD l 59) ++ (linesD s).drop j).set j (befD x 59) = ((linesD s).take (j + 1)).map (fun l => befD l 59) ++ (linesD s).drop (j + 1) := by
        rw [List.set_append_right _ _ (by simp; omega), List.length_map, List.length_take, Nat.min_eq_left (by omega), Nat.sub_self, List.drop_eq_getElem_cons hj, List.set_cons_zero, List.take_succ_eq_append_getElem hj, ← hx]
        simp
      have hln : (((linesD s).take j).map (fun l => befD l 59) ++ (linesD s).drop j).length = (linesD s).length := by simp; omega
      generalize hys : ((linesD s).take j).map (fun l => befD l 59) ++ (linesD s).drop j = ys at hget hset hln ⊢
      have hgs : (strs ys)[j]? = some [.str x] := by simp [strs, hget]
      have hsl' := sstr_len ys
      have hw : IntKind.i64.wrap ((j : Int) + 1) = ((j + 1 : Nat) : Int) := by rw [wrap_i64_in (by omega) (by omega)]; omega
      refine au  ?_
      repeat intro K hK
      refine wr ?_
      refine awp_cond rfl (fun _ => ?_) (fun h => by simp [hj] at h)
      refine au2 @hgs @hsl' ?_
      repeat intro K hK
      refine wr ?_
      refine ca (cut_ok x 59 (by omega))  ?_
      refine au3 @hsl' @strs_set @hset ?_
      repeat intro K hK
      refine wr ?_
      refine again_of ((linesD s).length - (j + 1)) ((fun (j : Nat)  => (⟨50, [(34, .int .i64 j), (33, .int .i64 (linesD s).length), (32, .own 3), (3, .own 3)], 4, [(3, some ⟨9, 1, false, false, strs (((linesD s).take j).map (fun l => befD l 59) ++ (linesD s).drop j)⟩)], 0⟩ : St)) (j + 1) ) (id) (by omega) (by rw [hIj]; exact ⟨j + 1, by omega, rfl, trivial, rfl⟩) ⟨rfl, ?_, ?_, ?_, by simp⟩
      · simp [leT, ltV, lt1, ren, ren1, wrap_i64_in (n := (j : Int) + 1) (by omega) (by omega), hw, hgs, strs_set, hset]
      · simp [leO, lt1, ren1, hw, hgs, strs_set, hset]
      · (simp; try omega)
    · have hjl : j = (linesD s).length := by omega
      subst hjl
      rw [List.take_length, List.drop_length, List.append_nil]
      refine au  ?_
      repeat intro K hK
      refine wr ?_
      refine awp_cond rfl (fun h => by simp at h) (fun _ => ?_)
      refine au  ?_
      repeat intro K hK
      refine wr ?_
      refine awp_ret ?_
      simp [splitD]
end Go.Proofs.YtjlbpkokdlggiaaDoor
