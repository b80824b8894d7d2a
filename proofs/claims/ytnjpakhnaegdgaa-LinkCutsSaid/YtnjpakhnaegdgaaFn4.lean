/- awake of law 23. -/
import Derived.Test.YtnjpakhnaegdgaaFn3
namespace Go.Proofs.Ytnjpakhnaegdgaa
open Go.Ab
set_option linter.unusedSimpArgs false
theorem awake_ok : Meets Try.prog 16 [] (.bool true) := by
  refine Meets.of Try.func16 rfl (by kernel_rfl) rfl ?_
  simp only [Try.ntmps16, St.start, argT]
  repeat (first | (refine awp_seqK fun K hK => ?_) | (refine awp_block ?_) | (refine awp_region (by kernel_rfl) ?_; simp) | (with_reducible apply_assumption) | (refine awp_skip ?_; simp) | (refine awp_exit ?_; simp))
  refine ⟨0, _, send_yes [] 0 true [97] (.inr ⟨rfl, rfl⟩) (by simp), ?_⟩
  simp [aftC]
  repeat (first | (refine awp_seqK fun K hK => ?_) | (refine awp_block ?_) | (refine awp_region (by kernel_rfl) ?_; simp) | (with_reducible apply_assumption) | (refine awp_skip ?_; simp) | (refine awp_exit ?_; simp))
  refine ⟨0, _, deliver_last [[.str [97]]] _ 0 [97] (by simp) (by simp) (by simp) rfl, ?_⟩
  simp [aftC]
  repeat (first | (refine awp_seqK fun K hK => ?_) | (refine awp_block ?_) | (refine awp_region (by kernel_rfl) ?_; simp) | (with_reducible apply_assumption) | (refine awp_skip ?_; simp) | (refine awp_exit ?_; simp))
  refine ⟨0, _, cut_ok _ _ _ _, ?_⟩
  simp [aftC]
  refine ⟨0, _, send_no [] 0 true true [98] (.inr ⟨rfl, rfl⟩) (by simp) (.inl rfl), ?_⟩
  simp [aftC]
  repeat (first | (refine awp_seqK fun K hK => ?_) | (refine awp_block ?_) | (refine awp_region (by kernel_rfl) ?_; simp) | (with_reducible apply_assumption) | (refine awp_skip ?_; simp) | (refine awp_exit ?_; simp))
  refine ⟨0, _, cut_ok _ _ _ _, ?_⟩
  simp [aftC]
  repeat (first | (refine awp_seqK fun K hK => ?_) | (refine awp_block ?_) | (refine awp_region (by kernel_rfl) ?_; simp) | (with_reducible apply_assumption) | (refine awp_skip ?_; simp) | (refine awp_exit ?_; simp))
  refine awp_ret ?_
  simp
end Go.Proofs.Ytnjpakhnaegdgaa
