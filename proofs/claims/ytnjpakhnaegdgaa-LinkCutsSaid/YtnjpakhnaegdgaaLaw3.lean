/- The law LinkCuts, walked. -/
import Derived.Test.YtnjpakhnaegdgaaFn4
namespace Go.Proofs.Ytnjpakhnaegdgaa
open Go.Ab
set_option linter.unusedSimpArgs false
theorem cuts_ok (l : List (List UInt8)) (z : Nat) (t c : Bool) (s : List UInt8) (n : Int) (hz : z = 1 ∨ (z = 0 ∧ l = [])) : Meets Try.prog 3 [.st [.sl z t (strs l), .bool c], .str s, .int .i64 n] (.bool true) := by
  refine Meets.of Try.func3 rfl (by kernel_rfl) rfl ?_
  simp only [Try.ntmps3, St.start, argT]
  repeat (first | (refine awp_seqK fun K hK => ?_) | (refine awp_block ?_) | (refine awp_region (by kernel_rfl) ?_; simp) | (with_reducible apply_assumption) | (refine awp_skip ?_; simp) | (refine awp_exit ?_; simp))
  refine ⟨0, _, few_ok l z t c hz, ?_⟩
  simp [aftC]
  repeat (first | (refine awp_seqK fun K hK => ?_) | (refine awp_block ?_) | (refine awp_region (by kernel_rfl) ?_; simp) | (with_reducible apply_assumption) | (refine awp_skip ?_; simp) | (refine awp_exit ?_; simp))
  refine awp_cond rfl (fun _ => ?_) (fun _ => ?_)
  · repeat (first | (refine awp_seqK fun K hK => ?_) | (refine awp_block ?_) | (refine awp_region (by kernel_rfl) ?_; simp) | (with_reducible apply_assumption) | (refine awp_skip ?_; simp) | (refine awp_exit ?_; simp))
    refine ⟨0, _, awake_ok, ?_⟩
    simp [aftC]
    repeat (first | (refine awp_seqK fun K hK => ?_) | (refine awp_block ?_) | (refine awp_region (by kernel_rfl) ?_; simp) | (with_reducible apply_assumption) | (refine awp_skip ?_; simp) | (refine awp_exit ?_; simp))
    refine awp_ret ?_
    simp
  · repeat (first | (refine awp_seqK fun K hK => ?_) | (refine awp_block ?_) | (refine awp_region (by kernel_rfl) ?_; simp) | (with_reducible apply_assumption) | (refine awp_skip ?_; simp) | (refine awp_exit ?_; simp))
    refine ⟨0, _, cut_ok _ _ _ _, ?_⟩
    simp [aftC]
    repeat (first | (refine awp_seqK fun K hK => ?_) | (refine awp_block ?_) | (refine awp_region (by kernel_rfl) ?_; simp) | (with_reducible apply_assumption) | (refine awp_skip ?_; simp) | (refine awp_exit ?_; simp))
    refine ⟨0, _, send_no [] 0 true true s (.inr ⟨rfl, rfl⟩) (by simp) (.inl rfl), ?_⟩
    simp [aftC]
    repeat (first | (refine awp_seqK fun K hK => ?_) | (refine awp_block ?_) | (refine awp_region (by kernel_rfl) ?_; simp) | (with_reducible apply_assumption) | (refine awp_skip ?_; simp) | (refine awp_exit ?_; simp))
    refine ⟨0, _, deliver_no [] 0 true n (.inr ⟨rfl, rfl⟩) (by simp), ?_⟩
    simp [aftC]
    repeat (first | (refine awp_seqK fun K hK => ?_) | (refine awp_block ?_) | (refine awp_region (by kernel_rfl) ?_; simp) | (with_reducible apply_assumption) | (refine awp_skip ?_; simp) | (refine awp_exit ?_; simp))
    refine ⟨0, _, uncut_ok [] 1 _ true (.inl rfl) (by simp), ?_⟩
    simp [aftC]
    refine ⟨0, _, send_yes [] 1 _ s (.inl rfl) (by simp), ?_⟩
    simp [aftC]
    repeat (first | (refine awp_seqK fun K hK => ?_) | (refine awp_block ?_) | (refine awp_region (by kernel_rfl) ?_; simp) | (with_reducible apply_assumption) | (refine awp_skip ?_; simp) | (refine awp_exit ?_; simp))
    refine ⟨0, _, deliver_last [[.str s]] _ 0 s (by simp) (by simp) (by simp) rfl, ?_⟩
    simp [aftC]
    repeat (first | (refine awp_seqK fun K hK => ?_) | (refine awp_block ?_) | (refine awp_region (by kernel_rfl) ?_; simp) | (with_reducible apply_assumption) | (refine awp_skip ?_; simp) | (refine awp_exit ?_; simp))
    refine ⟨0, _, awake_ok, ?_⟩
    simp [aftC]
    repeat (first | (refine awp_seqK fun K hK => ?_) | (refine awp_block ?_) | (refine awp_region (by kernel_rfl) ?_; simp) | (with_reducible apply_assumption) | (refine awp_skip ?_; simp) | (refine awp_exit ?_; simp))
    refine awp_ret ?_
    simp
end Go.Proofs.Ytnjpakhnaegdgaa
