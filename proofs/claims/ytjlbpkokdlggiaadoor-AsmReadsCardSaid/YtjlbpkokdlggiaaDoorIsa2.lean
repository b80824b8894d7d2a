/- Contracts: which instructions are valid. -/
import Derived.Test.YtjlbpkokdlggiaaDoorIsa1
namespace Go.Proofs.YtjlbpkokdlggiaaDoor
open Go.Ab
set_option linter.unusedSimpArgs false
set_option maxRecDepth 100000
def regB (r : Int) (used : Bool) : Bool := if used then decide (0 ≤ r) && decide (r ≤ 15) else decide (r = 0)
theorem register_ok (r : Int) (u : Bool) : Meets Tryd.prog 43 [.int .i64 r, .bool u] (.bool (regB r u)) := by
  refine Meets.of Tryd.func43 rfl (by kernel_rfl) rfl ?_
  simp only [Tryd.ntmps43, St.start, argT]
  refine au  ?_
  repeat intro K hK
  refine wr ?_
  cases u with
  | true =>
    refine awp_cond rfl (fun _ => ?_) (fun h => by simp at h)
    refine au  ?_
    repeat intro K hK
    refine wr ?_
    refine awp_ret ?_
    simp [regB]
  | false =>
    refine awp_cond rfl (fun h => by simp at h) (fun _ => ?_)
    refine au  ?_
    repeat intro K hK
    refine wr ?_
    refine awp_ret ?_
    simp [regB]
    rw [Bool.eq_iff_iff]; simp
def validD (i : InstD) : Bool := decide (formD i.op ≠ 0) && regB i.a (uA (formD i.op)) && regB i.b (uB (formD i.op)) && regB i.c (uC (formD i.op)) && decide (lowD (formD i.op) ≤ i.imm) && decide (i.imm ≤ highD (formD i.op))
set_option maxHeartbeats 4000000 in
theorem valid_ok (i : InstD) : Meets Tryd.prog 21 [.st i.row] (.bool (validD i)) := by
  refine Meets.of Tryd.func21 rfl (by kernel_rfl) rfl ?_
  simp only [Tryd.ntmps21, St.start, argT]
  refine au  ?_
  repeat intro K hK
  refine wr ?_
  refine ca (use_ok i.op)  ?_
  refine au  ?_
  repeat intro K hK
  refine wr ?_
  first | refine gcall_c (register_ok i.a (uA (formD i.op))) rfl (fun hgd => ?_) (by simp [obsL]) ?_ | refine gcallE_c (register_ok i.a (uA (formD i.op))) rfl (by simp) (fun hgd => ?_) (by simp [obsL]) ?_
  all_goals simp
  all_goals (try (first | exact hgd | (simp at hgd; first | done | assumption | grind)))
  refine au  ?_
  repeat intro K hK
  refine wr ?_
  first | refine gcall_c (register_ok i.b (uB (formD i.op))) rfl (fun hgd => ?_) (by simp [obsL]) ?_ | refine gcallE_c (register_ok i.b (uB (formD i.op))) rfl (by simp) (fun hgd => ?_) (by simp [obsL]) ?_
  all_goals simp
  all_goals (try (first | exact hgd | (simp at hgd; first | done | assumption | grind)))
  refine au  ?_
  repeat intro K hK
  refine wr ?_
  first | refine gcall_c (register_ok i.c (uC (formD i.op))) rfl (fun hgd => ?_) (by simp [obsL]) ?_ | refine gcallE_c (register_ok i.c (uC (formD i.op))) rfl (by simp) (fun hgd => ?_) (by simp [obsL]) ?_
  all_goals simp
  all_goals (try (first | exact hgd | (simp at hgd; first | done | assumption | grind)))
  refine au  ?_
  repeat intro K hK
  refine wr ?_
  refine awp_ret ?_
  simp [validD]
  try (rw [Bool.eq_iff_iff]; simp)
theorem formD_range (op : Int) : 0 ≤ formD op ∧ formD op ≤ 9 := by
  unfold formD
  (repeat' split) <;> omega
theorem formD_cases (op : Int) : formD op = 0 ∨ formD op = 1 ∨ formD op = 2 ∨ formD op = 3 ∨ formD op = 4 ∨ formD op = 5 ∨ formD op = 6 ∨ formD op = 7 ∨ formD op = 8 ∨ formD op = 9 := by have := formD_range op; omega
set_option maxHeartbeats 8000000 in
theorem form_ok (op : Int) : Meets Tryd.prog 38 [.int .i64 op] (.int .i64 (formD op)) := by
  refine Meets.of Tryd.func38 rfl (by kernel_rfl) rfl ?_
  simp only [Tryd.ntmps38, St.start, argT]
  refine au  ?_
  repeat intro K hK
  refine wr ?_
  refine awp_cond rfl (fun h1 => ?_) (fun h1 => ?_)
  · simp at h1
    refine au  ?_
    repeat intro K hK
    refine wr ?_
    refine awp_ret ?_
    simp [formD, h1]
  simp at h1
  refine au  ?_
  repeat intro K hK
  refine wr ?_
  refine awp_cond rfl (fun h2 => ?_) (fun h2 => ?_)
  · simp at h2
    have hf : formD op = 3 := by unfold formD; rw [if_neg (by omega), if_pos (by omega)]
    refine au  ?_
    repeat intro K hK
    refine wr ?_
    refine awp_ret ?_
    simp [hf]
  simp at h2
  refine au  ?_
  repeat intro K hK
  refine wr ?_
  refine awp_cond rfl (fun h3 => ?_) (fun h3 => ?_)
  · simp at h3
    have hf : formD op = 4 := by unfold formD; rw [if_neg (by omega), if_neg (by omega), if_pos (by omega)]
    refine au  ?_
    repeat intro K hK
    refine wr ?_
    refine awp_ret ?_
    simp [hf]
  simp at h3
  refine au  ?_
  repeat intro K hK
  refine wr ?_
  refine awp_cond rfl (fun h4 => ?_) (fun h4 => ?_)
  · simp at h4
    have hf : formD op = 5 := by unfold formD; rw [if_neg (by omega), if_neg (by omega), if_neg (by omega), if_pos (by omega)]
    refine au  ?_
    repeat intro K hK
    refine wr ?_
    refine awp_ret ?_
    simp [hf]
  simp at h4
  refine au  ?_
  repeat intro K hK
  refine wr ?_
  refine awp_cond rfl (fun h5 => ?_) (fun h5 => ?_)
  · simp at h5
    have hf : formD op = 6 := by unfold formD; rw [if_neg (by omega), if_neg (by omega), if_neg (by omega), if_neg (by omega), if_pos (by omega)]
    refine au  ?_
    repeat intro K hK
    refine wr ?_
    refine awp_ret ?_
    simp [hf]
  simp at h5
  refine au  ?_
  repeat intro K hK
  refine wr ?_
  refine awp_cond rfl (fun h6 => ?_) (fun h6 => ?_)
  · simp at h6
    have hf : formD op = 7 := by unfold formD; rw [if_neg (by omega), if_neg (by omega), if_neg (by omega), if_neg (by omega), if_neg (by omega), if_pos (by omega)]
    refine au  ?_
    repeat intro K hK
    refine wr ?_
    refine awp_ret ?_
    simp [hf]
  simp at h6
  refine au  ?_
  repeat intro K hK
  refine wr ?_
  refine awp_cond rfl (fun h7 => ?_) (fun h7 => ?_)
  · simp at h7
    have hf : formD op = 8 := by unfold formD; rw [if_neg (by omega), if_neg (by omega), if_neg (by omega), if_neg (by omega), if_neg (by omega), if_neg (by omega), if_pos (by omega)]
    refine au  ?_
    repeat intro K hK
    refine wr ?_
    refine awp_ret ?_
    simp [hf]
  simp at h7
  refine au  ?_
  repeat intro K hK
  refine wr ?_
  refine awp_cond rfl (fun h8 => ?_) (fun h8 => ?_)
  · simp at h8
    have hf : formD op = 9 := by unfold formD; rw [if_neg (by omega), if_neg (by omega), if_neg (by omega), if_neg (by omega), if_neg (by omega), if_neg (by omega), if_neg (by omega), if_pos (by omega)]
    refine au  ?_
    repeat intro K hK
    refine wr ?_
    refine awp_ret ?_
    simp [hf]
  simp at h8
  refine au  ?_
  repeat intro K hK
  refine wr ?_
  refine awp_cond rfl (fun h9 => ?_) (fun h9 => ?_)
  · simp at h9
    have hf : formD op = 1 := by unfold formD; rw [if_neg (by omega), if_neg (by omega), if_neg (by omega), if_neg (by omega), if_neg (by omega), if_neg (by omega), if_neg (by omega), if_neg (by omega), if_pos (by omega)]
    refine au  ?_
    repeat intro K hK
    refine wr ?_
    refine awp_ret ?_
    simp [hf]
  simp at h9
  have hf : formD op = 0 := by
    unfold formD
    repeat rw [if_neg (by omega)]
  refine au  ?_
  repeat intro K hK
  refine wr ?_
  refine awp_ret ?_
  simp [hf]
theorem registerR_ok (r : Int) : Meets Tryd.prog 56 [.int .i64 r] (.bool (regB r true)) := by
  refine Meets.of Tryd.func56 rfl (by kernel_rfl) rfl ?_
  simp only [Tryd.ntmps56, St.start, argT]
  refine au  ?_
  repeat intro K hK
  refine wr ?_
  refine awp_ret ?_
  simp [regB]
theorem bounds_ok (f : Int) : Meets Tryd.prog 57 [.int .i64 f] (.tup [.int .i64 (lowD f), .int .i64 (highD f)]) := by
  refine Meets.of Tryd.func57 rfl (by kernel_rfl) rfl ?_
  simp only [Tryd.ntmps57, St.start, argT]
  refine au  ?_
  repeat intro K hK
  refine wr ?_
  refine awp_cond rfl (fun h1 => ?_) (fun h1 => ?_)
  · simp at h1
    subst h1
    refine au  ?_
    repeat intro K hK
    refine wr ?_
    refine awp_cond rfl (fun _ => ?_) (fun h => by simp at h)
    refine au  ?_
    repeat intro K hK
    refine wr ?_
    refine awp_ret ?_
    simp [lowD, highD]
  simp at h1
  refine au  ?_
  repeat intro K hK
  refine wr ?_
  refine awp_cond rfl (fun h2 => ?_) (fun h2 => ?_)
  · simp at h2
    subst h2
    refine au  ?_
    repeat intro K hK
    refine wr ?_
    refine awp_ret ?_
    simp [lowD, highD]
  simp at h2
  refine au  ?_
  repeat intro K hK
  refine wr ?_
  refine awp_cond rfl (fun h3 => ?_) (fun h3 => ?_)
  · simp at h3
    subst h3
    refine au  ?_
    repeat intro K hK
    refine wr ?_
    refine awp_cond rfl (fun _ => ?_) (fun h => by simp at h)
    refine au  ?_
    repeat intro K hK
    refine wr ?_
    refine awp_ret ?_
    simp [lowD, highD]
  simp at h3
  refine au  ?_
  repeat intro K hK
  refine wr ?_
  refine awp_cond rfl (fun h4 => ?_) (fun h4 => ?_)
  · simp at h4
    subst h4
    refine au  ?_
    repeat intro K hK
    refine wr ?_
    refine awp_ret ?_
    simp [lowD, highD]
  simp at h4
  refine au  ?_
  repeat intro K hK
  refine wr ?_
  refine awp_cond rfl (fun h5 => ?_) (fun h5 => ?_)
  · simp at h5
    subst h5
    refine au  ?_
    repeat intro K hK
    refine wr ?_
    refine awp_ret ?_
    simp [lowD, highD]
  simp at h5
  refine au  ?_
  repeat intro K hK
  refine wr ?_
  refine awp_cond rfl (fun h6 => ?_) (fun h6 => ?_)
  · simp at h6
    subst h6
    refine au  ?_
    repeat intro K hK
    refine wr ?_
    refine awp_ret ?_
    simp [lowD, highD]
  simp at h6
  refine au  ?_
  repeat intro K hK
  refine wr ?_
  refine awp_cond rfl (fun h7 => ?_) (fun h7 => ?_)
  · simp at h7
    subst h7
    refine au  ?_
    repeat intro K hK
    refine wr ?_
    refine awp_ret ?_
    simp [lowD, highD]
  simp at h7
  refine au  ?_
  repeat intro K hK
  refine wr ?_
  refine awp_ret ?_
  simp [lowD, highD, h1, h2, h3, h4, h5, h6, h7]
set_option maxHeartbeats 8000000 in
theorem validR_ok (i : InstD) (hi : -2147483648 ≤ i.imm ∧ i.imm ≤ 2147483647) : Meets Tryd.prog 32 [.st i.row] (.bool (validD i)) := by
  have hw : IntKind.i64.wrap i.imm = i.imm := wrap_i64_in (by omega) (by omega)
  refine Meets.of Tryd.func32 rfl (by kernel_rfl) rfl ?_
  simp only [Tryd.ntmps32, St.start, argT]
  refine au  ?_
  repeat intro K hK
  refine wr ?_
  refine ca (form_ok i.op)  ?_
  refine au  ?_
  repeat intro K hK
  refine wr ?_
  first | refine gcall_c (registerR_ok i.a) rfl (fun hgd => ?_) (by simp [obsL]) ?_ | refine gcallE_c (registerR_ok i.a) rfl (by simp) (fun hgd => ?_) (by simp [obsL]) ?_
  all_goals simp
  all_goals (try (first | exact hgd | (simp at hgd; first | done | assumption | grind)))
  refine au  ?_
  repeat intro K hK
  refine wr ?_
  first | refine gcall_c (registerR_ok i.b) rfl (fun hgd => ?_) (by simp [obsL]) ?_ | refine gcallE_c (registerR_ok i.b) rfl (by simp) (fun hgd => ?_) (by simp [obsL]) ?_
  all_goals simp
  all_goals (try (first | exact hgd | (simp at hgd; first | done | assumption | grind)))
  refine au  ?_
  repeat intro K hK
  refine wr ?_
  first | refine gcall_c (registerR_ok i.c) rfl (fun hgd => ?_) (by simp [obsL]) ?_ | refine gcallE_c (registerR_ok i.c) rfl (by simp) (fun hgd => ?_) (by simp [obsL]) ?_
  all_goals simp
  all_goals (try (first | exact hgd | (simp at hgd; first | done | assumption | grind)))
  refine au  ?_
  repeat intro K hK
  refine wr ?_
  refine awp_cond rfl (fun h1 => ?_) (fun h1 => ?_)
  · have hv : validD i = false := by
      rcases formD_cases i.op with h | h | h | h | h | h | h | h | h | h <;> simp [validD, regB, uA, uB, uC, h] at h1 ⊢ <;> (try omega)
    refine au  ?_
    repeat intro K hK
    refine wr ?_
    refine awp_ret ?_
    simp [hv]
  refine au  ?_
  repeat intro K hK
  refine wr ?_
  refine ca (bounds_ok (formD i.op))  ?_
  refine au1 @hw ?_
  repeat intro K hK
  refine wr ?_
  refine awp_cond rfl (fun h2 => ?_) (fun h2 => ?_)
  · have hv : validD i = false := by
      rcases formD_cases i.op with h | h | h | h | h | h | h | h | h | h <;> simp [validD, regB, uA, uB, uC, lowD, highD, h] at h1 h2 ⊢ <;> (try omega)
    refine au  ?_
    repeat intro K hK
    refine wr ?_
    refine awp_ret ?_
    simp [hv]
  refine au  ?_
  repeat intro K hK
  refine wr ?_
  refine awp_ret ?_
  simp
  rw [Bool.eq_iff_iff]
  rcases formD_cases i.op with h | h | h | h | h | h | h | h | h | h <;> simp [validD, regB, uA, uB, uC, lowD, highD, h] at h1 h2 ⊢ <;> (try omega)
end Go.Proofs.YtjlbpkokdlggiaaDoor
