/- The document's assembler: an instruction of a statement. (Numbers of seat r2.D.) -/
import Derived.Test.YtjlbpkokdlggiaaDoorRefH
namespace Go.Proofs.YtjlbpkokdlggiaaDoor
open Go.Ab Go.RowKit
set_option linter.unusedSimpArgs false
set_option maxRecDepth 100000
abbrev arg0 : ArgD := (0, 0, [])
/-- as many operands as the form needs -/
def okArgs (op : Int) (a : List ArgD) : Prop := (formD op = 2 → 3 ≤ a.length) ∧ (32 ≤ op ∧ op ≤ 36 → 3 ≤ a.length) ∧ (6 ≤ formD op → 1 ≤ a.length) ∧ (formD op ≠ 1 → formD op < 6 → 2 ≤ a.length)
def instI (op : Int) (a : List ArgD) (x : Int) : InstD :=
  if formD op = 2 then ⟨op, (a.getD 0 arg0).1, (a.getD 1 arg0).1, (a.getD 2 arg0).1, x⟩
  else if 32 ≤ op ∧ op ≤ 36 then ⟨op, (a.getD 0 arg0).1, (a.getD 2 arg0).1, 0, x⟩
  else if 6 ≤ formD op then ⟨op, (a.getD 0 arg0).1, 0, 0, x⟩
  else if formD op ≠ 1 then ⟨op, (a.getD 0 arg0).1, (a.getD 1 arg0).1, 0, x⟩
  else ⟨op, 0, 0, 0, x⟩
def instX (op : Int) (a : List ArgD) (v : Int) : Int :=
  if formD op = 2 ∨ formD op = 1 then 0 else if 32 ≤ op ∧ op ≤ 36 then (a.getD 1 arg0).2.1 else v
def instR (op : Int) (a : List ArgD) (v : Int) : Option Int :=
  if instX op a v < lowD (formD op) ∨ highD (formD op) < instX op a v then none
  else if validD (instI op a (instX op a v)) = true then some (encW (instI op a (instX op a v))) else none
def instV (op : Int) (a : List ArgD) (v : Int) : V := .tup [.int .u32 ((instR op a v).getD 0), .bool (instR op a v).isSome]
theorem argsV_at (l : List ArgD) (i : Nat) (h : i < l.length) : (argsV l)[i]? = some [.int .i64 (l.getD i arg0).1, .int .i64 (l.getD i arg0).2.1, .str (l.getD i arg0).2.2] := by
  simp [argsV, h, List.getD_eq_getElem?_getD]
theorem low_ge (f : Int) : -2147483648 ≤ lowD f := by unfold lowD; split <;> decide
theorem high_le (f : Int) : highD f ≤ 2147483647 := by unfold highD; (repeat' split) <;> decide
set_option maxHeartbeats 32000000 in
theorem inst_ok (st : StD) (v : Int) (ho : okArgs st.op st.l) : Meets Tryd.prog 66 [.st st.row, .int .i64 v] (instV st.op st.l v) := by
  obtain ⟨o1, o2, o3, o4⟩ := ho
  obtain ⟨w, op, a, ln, at', sz⟩ := st
  simp only at o1 o2 o3 o4 ⊢
  refine Meets.of Tryd.func66 rfl (by kernel_rfl) rfl ?_
  simp only [Tryd.ntmps66, St.start, argT]
  refine au  ?_
  repeat intro K hK
  refine wr ?_
  refine ca (form_ok op)  ?_
  refine au  ?_
  repeat intro K hK
  refine wr ?_
  refine ca (bounds_ok (formD op))  ?_
  iterate 5 (first | (with_reducible first | refine awp_seqK fun K hK => ?_ | refine awp_block ?_) | ((with_reducible first | refine awp_region (by kernel_rfl) ?_ | refine gcall_tt ?_ | refine gcall_ff ?_ | refine gcall_tf ?_ | refine gcall_ft ?_ | refine awp_skip ?_ | refine awp_exit ?_); simp) | ((repeat ((fail_if_success ((with_reducible refine hK _ ?_))); clear hK)); (with_reducible refine hK _ ?_); clear hK) | refine And.intro (by first | omega | assumption | grind) ?_)
  have hf := formD_range op
  refine join_of (α := Int × Int × Int × Int) (fun ⟨x, A, B, C⟩ => (⟨107, [(9, .int .i64 (highD (formD op))), (8, .int .i64 (lowD (formD op))), (7, .int .i64 (formD op)), (6, .ptr 1 5 0 0), (1, .int .i64 x)], 2, [(1, some ⟨26, 5, true, false, [[.int .i64 op, .int .i64 A, .int .i64 B, .int .i64 C, .int .i32 0]]⟩)], 0⟩ : St)) (fun ⟨x, A, B, C⟩ => (∀ y, instI op a y = ⟨op, A, B, C, y⟩) ∧ instX op a v = (if formD op = 2 ∨ formD op = 1 then 0 else x)) hK (fun ⟨x, A, B, C⟩ hxhJ => ?_) (fun hJ => ?_)
  all_goals clear hK
  · obtain ⟨hj1, hj2⟩ := hxhJ
    have hlo := low_ge (formD op)
    have hhi := high_le (formD op)
    refine au  ?_
    repeat intro K hK
    refine wr ?_
    by_cases c0 : formD op = 2 ∨ formD op = 1
    · rw [if_pos c0] at hj2
      refine awp_cond rfl (fun _ => ?_) (fun h => absurd c0 (by simpa using h))
      refine au  ?_
      repeat intro K hK
      refine wr ?_
      by_cases c9 : 0 < lowD (formD op) ∨ highD (formD op) < 0
      · have hv : instV op a v = .tup [.int .u32 0, .bool false] := by unfold instV instR; rw [hj2, if_pos c9]; rfl
        refine awp_cond rfl (fun _ => ?_) (fun h => absurd c9 (by simpa using h))
        refine au  ?_
        repeat intro K hK
        refine wr ?_
        refine awp_ret ?_
        simp [hv]
      · have hv : instV op a v = .tup [.int .u32 (if validD ⟨op, A, B, C, 0⟩ then encW ⟨op, A, B, C, 0⟩ else 0), .bool (validD ⟨op, A, B, C, 0⟩)] := by
          unfold instV instR; rw [hj2, if_neg c9, hj1]; split <;> simp [*]
        have hw : IntKind.i32.wrap (0) = 0 := by rw [IntKind.wrap_i32]; omega
        refine awp_cond rfl (fun h => absurd (by simpa using h) c9) (fun _ => ?_)
        refine au1 @hw ?_
        repeat intro K hK
        refine wr ?_
        refine ca (encodeR_ok ⟨op, A, B, C, 0⟩ ⟨by simp only; omega, by simp only; omega⟩)  ?_
        refine au  ?_
        repeat intro K hK
        refine wr ?_
        refine awp_ret ?_
        simp [hv]
    · rw [if_neg c0] at hj2
      refine awp_cond rfl (fun h => absurd (by simpa using h) c0) (fun _ => ?_)
      refine au  ?_
      repeat intro K hK
      refine wr ?_
      by_cases c9 : x < lowD (formD op) ∨ highD (formD op) < x
      · have hv : instV op a v = .tup [.int .u32 0, .bool false] := by unfold instV instR; rw [hj2, if_pos c9]; rfl
        refine awp_cond rfl (fun _ => ?_) (fun h => absurd c9 (by simpa using h))
        refine au  ?_
        repeat intro K hK
        refine wr ?_
        refine awp_ret ?_
        simp [hv]
      · have hv : instV op a v = .tup [.int .u32 (if validD ⟨op, A, B, C, x⟩ then encW ⟨op, A, B, C, x⟩ else 0), .bool (validD ⟨op, A, B, C, x⟩)] := by
          unfold instV instR; rw [hj2, if_neg c9, hj1]; split <;> simp [*]
        have hw : IntKind.i32.wrap (x) = x := by rw [IntKind.wrap_i32]; omega
        refine awp_cond rfl (fun h => absurd (by simpa using h) c9) (fun _ => ?_)
        refine au1 @hw ?_
        repeat intro K hK
        refine wr ?_
        refine ca (encodeR_ok ⟨op, A, B, C, x⟩ ⟨by simp only; omega, by simp only; omega⟩)  ?_
        refine au  ?_
        repeat intro K hK
        refine wr ?_
        refine awp_ret ?_
        simp [hv]
  by_cases c1 : formD op = 2
  · have g0 := argsV_at a 0 (by have := o1 c1; omega)
    have g1 := argsV_at a 1 (by have := o1 c1; omega)
    have g2 := argsV_at a 2 (by have := o1 c1; omega)
    refine au  ?_
    repeat intro K hK
    refine wr ?_
    refine awp_cond rfl (fun _ => ?_) (fun h => by simp [c1] at h)
    refine au  ?_
    repeat intro K hK
    refine wr ?_
    refine awp_planI ([0, 1, 2, 3, 4, 5, 6, 7, 8, 9, 10, 11, 12, 13, 14, 15, 16, 17] : List Nat) ([[], [0], [0, 1], [0, 1, 2], [], [4], [4, 5], [4, 5, 6], [], [8], [8, 9], [8, 9, 10], [0, 1, 2, 3], [0, 1, 2, 3, 12], [0, 1, 2, 3, 4, 5, 6, 7, 12, 13], [0, 1, 2, 3, 4, 5, 6, 7, 12, 13, 14], [0, 1, 2, 3, 4, 5, 6, 7, 8, 9, 10, 11, 12, 13, 14, 15], [0, 1, 2, 3, 4, 5, 6, 7, 8, 9, 10, 11, 12, 13, 14, 15, 16]] : List (List Nat)) ([(16, ([[], [0], [0, 1], [0, 1, 2], [], [4], [4, 5], [4, 5, 6], [], [8], [8, 9], [8, 9, 10], [0, 1, 2, 3], [0, 1, 2, 3, 12], [0, 1, 2, 3, 4, 5, 6, 7, 12, 13], [0, 1, 2, 3, 4, 5, 6, 7, 12, 13, 14]], [(5, 13), (7, 13), (9, 13), (9, 15), (11, 13), (11, 15)])), (1, ([], [])), (1, ([], []))] : List (Nat × List (List Nat) × List (Nat × Nat))) (by kernel_rfl) (by kernel_rfl) (by kernel_rfl) ?_
    refine af3 @g0 @g1 @g2 ?_
    repeat intro K hK
    refine wr ?_
    refine af  ?_
    repeat intro K hK
    refine wr ?_
    refine hJ ⟨v, (a.getD 0 arg0).1, (a.getD 1 arg0).1, (a.getD 2 arg0).1⟩ _ (id) (⟨fun y => by simp only [instI, if_pos c1], by simp [instX, c1]⟩) ⟨rfl, ?_, ?_, ?_, by simp⟩
    · simp [leT, ltV, lt1, ren, ren1]
    · simp [leO, lt1, ren1]
    · (simp; try omega)
  · refine af  ?_
    repeat intro K hK
    refine wr ?_
    refine awp_cond rfl (fun h => by simp [c1] at h) (fun _ => ?_)
    refine af  ?_
    repeat intro K hK
    refine wr ?_
    by_cases c2 : 32 ≤ op ∧ op ≤ 36
    · have g0 := argsV_at a 0 (by have := o2 c2; omega)
      have g1 := argsV_at a 1 (by have := o2 c2; omega)
      have g2 := argsV_at a 2 (by have := o2 c2; omega)
      have hf3 : formD op = 3 := by unfold formD; rw [if_neg (by omega), if_pos (by omega)]
      refine awp_cond rfl (fun _ => ?_) (fun h => by simp [c2] at h)
      refine af  ?_
      repeat intro K hK
      refine wr ?_
      refine awp_planI ([0, 1, 2, 3, 4, 5, 6, 7, 8, 9, 10, 11] : List Nat) ([[], [0], [0, 1], [0, 1, 2], [], [4], [4, 5], [4, 5, 6], [0, 1, 2, 3], [0, 1, 2, 3, 8], [0, 1, 2, 3, 4, 5, 6, 7, 8, 9], [0, 1, 2, 3, 4, 5, 6, 7, 8, 9, 10]] : List (List Nat)) ([(10, ([[], [0], [0, 1], [0, 1, 2], [], [4], [4, 5], [4, 5, 6], [0, 1, 2, 3], [0, 1, 2, 3, 8]], [(5, 9), (7, 9)])), (1, ([], [])), (1, ([], []))] : List (Nat × List (List Nat) × List (Nat × Nat))) (by kernel_rfl) (by kernel_rfl) (by kernel_rfl) ?_
      refine af3 @g0 @g1 @g2 ?_
      repeat intro K hK
      refine wr ?_
      refine af3 @g0 @g1 @g2 ?_
      repeat intro K hK
      refine wr ?_
      refine hJ ⟨(a.getD 1 arg0).2.1, (a.getD 0 arg0).1, (a.getD 2 arg0).1, 0⟩ _ (id) (⟨fun y => by simp only [instI, if_neg c1, if_pos c2], by simp [instX, hf3, c2]⟩) ⟨rfl, ?_, ?_, ?_, by simp⟩
      · simp [leT, ltV, lt1, ren, ren1]
      · simp [leO, lt1, ren1]
      · (simp; try omega)
    · refine awp_cond rfl (fun h => absurd (by simpa using h) c2) (fun _ => ?_)
      refine af  ?_
      repeat intro K hK
      refine wr ?_
      by_cases c3 : 6 ≤ formD op
      · have g0 := argsV_at a 0 (by have := o3 c3; omega)
        refine awp_cond rfl (fun _ => ?_) (fun h => by simp [c3] at h)
        refine af1 @g0 ?_
        repeat intro K hK
        refine wr ?_
        refine hJ ⟨v, (a.getD 0 arg0).1, 0, 0⟩ _ (id) (⟨fun y => by simp only [instI, if_neg c1, if_neg c2, if_pos c3], by simp only [instX, if_neg c2]⟩) ⟨rfl, ?_, ?_, ?_, by simp⟩
        · simp [leT, ltV, lt1, ren, ren1]
        · simp [leO, lt1, ren1]
        · (simp; try omega)
      · refine awp_cond rfl (fun h => by simp [c3] at h) (fun _ => ?_)
        refine af  ?_
        repeat intro K hK
        refine wr ?_
        by_cases c4 : formD op = 1
        · refine awp_cond rfl (fun h => by simp [c4] at h) (fun _ => ?_)
          refine af  ?_
          repeat intro K hK
          refine wr ?_
          refine hJ ⟨v, 0, 0, 0⟩ _ (id) (⟨fun y => by simp only [instI, if_neg c1, if_neg c2, if_neg c3, c4]; rfl, by simp only [instX, if_neg c2]⟩) ⟨rfl, ?_, ?_, ?_, by simp⟩
          · simp [leT, ltV, lt1, ren, ren1]
          · simp [leO, lt1, ren1]
          · (simp; try omega)
        · have g0 := argsV_at a 0 (by have := o4 c4 (by omega); omega)
          have g1 := argsV_at a 1 (by have := o4 c4 (by omega); omega)
          refine awp_cond rfl (fun _ => ?_) (fun h => by simp [c4] at h)
          refine af  ?_
          repeat intro K hK
          refine wr ?_
          refine awp_planI ([0, 1, 2, 3, 4, 5, 6, 7, 8, 9, 10, 11] : List Nat) ([[], [0], [0, 1], [0, 1, 2], [], [4], [4, 5], [4, 5, 6], [0, 1, 2, 3], [0, 1, 2, 3, 8], [0, 1, 2, 3, 4, 5, 6, 7, 8, 9], [0, 1, 2, 3, 4, 5, 6, 7, 8, 9, 10]] : List (List Nat)) ([(10, ([[], [0], [0, 1], [0, 1, 2], [], [4], [4, 5], [4, 5, 6], [0, 1, 2, 3], [0, 1, 2, 3, 8]], [(5, 9), (7, 9)])), (1, ([], [])), (1, ([], []))] : List (Nat × List (List Nat) × List (Nat × Nat))) (by kernel_rfl) (by kernel_rfl) (by kernel_rfl) ?_
          refine af2 @g0 @g1 ?_
          repeat intro K hK
          refine wr ?_
          refine af  ?_
          repeat intro K hK
          refine wr ?_
          refine hJ ⟨v, (a.getD 0 arg0).1, (a.getD 1 arg0).1, 0⟩ _ (id) (⟨fun y => by simp only [instI, if_neg c1, if_neg c2, if_neg c3, if_pos c4], by simp only [instX, if_neg c2]⟩) ⟨rfl, ?_, ?_, ?_, by simp⟩
          · simp [leT, ltV, lt1, ren, ren1]
          · simp [leO, lt1, ren1]
          · (simp; try omega)
end Go.Proofs.YtjlbpkokdlggiaaDoor
