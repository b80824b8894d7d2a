/- Contracts of package link's functions. -/
import Derived.Test.YtnjpakhnaegdgaaTy
namespace Go.Proofs.Ytnjpakhnaegdgaa
open Go.Ab
set_option linter.unusedSimpArgs false
theorem clone_ok (xs : List (List V)) (t : Bool) (z : Nat) (hz : z = 1 ∨ (z = 0 ∧ xs = [])) (hb : xs.length ≤ 1048576) : Meets Try.prog 63 [.sl z t xs] (.new 9 1 xs) := by
  refine Meets.of Try.func63 rfl (by kernel_rfl) rfl ?_
  simp only [Try.ntmps63, St.start, argT]
  refine awp_seqK fun K hK => ?_
  refine awp_region (by kernel_rfl) ?_
  simp
  refine hK _ ?_; clear hK K
  refine awp_seqK fun K hK => ?_
  refine awp_seqK fun K2 hK2 => ?_
  refine awp_region (by kernel_rfl) ?_
  simp
  refine ⟨hK2 _ ?_, fun hx => hK2 _ ?_⟩
  · refine awp_cond rfl (fun h => by cases h) (fun _ => awp_skip ?_)
    simp
    refine hK _ ?_
    refine awp_seqK fun K3 hK3 => ?_
    refine awp_region (by kernel_rfl) ?_
    simp
    refine ⟨?_, ?_, ?_, hK3 _ ?_⟩
    · rcases hz with h | h <;> simp [h]
    · omega
    · simp [maxLen]; omega
    · refine awp_ret ?_
      simp
  · subst hx
    refine awp_cond rfl (fun _ => ?_) (fun h => by cases h)
    refine awp_seqK fun K3 hK3 => ?_
    refine awp_region (by kernel_rfl) ?_
    simp
    refine hK3 _ ?_
    refine awp_nilOwn 2 9 1 (by decide) rfl ?_
    refine awp_ret ?_
    simp
theorem lclone_ok (xs : List (List V)) (t c : Bool) (z : Nat) (hz : z = 1 ∨ (z = 0 ∧ xs = [])) (hb : xs.length ≤ 1048576) : Meets Try.prog 64 [.st [.sl z t xs, .bool c]] (.st [.new 9 1 xs, .bool c]) := by
  refine Meets.of Try.func64 rfl (by kernel_rfl) rfl ?_
  simp only [Try.ntmps64, St.start, argT]
  refine awp_seqK fun K hK => ?_
  refine awp_region (by kernel_rfl) ?_
  simp
  refine hK _ ?_; clear hK K
  refine awp_seqK fun K hK => ?_
  refine awp_draw 5 [[], [0], [0, 1], [], [3], [0, 1, 2, 3, 4], [0, 1, 2, 3, 4, 5]] (by kernel_rfl) ?_
  simp
  refine ⟨0, _, clone_ok xs t z hz hb, ?_⟩
  simp [aftE]
  refine hK _ ?_
  refine awp_ret ?_
  simp
theorem has_ok (xs : List (List V)) (z : Nat) (t cut : Bool) (at_ : Int) : Meets Try.prog 66 [.st [.sl z t xs, .bool cut], .int .i64 at_] (.bool (decide (0 ≤ at_) && decide (at_ < xs.length))) := by
  refine Meets.of Try.func66 rfl (by kernel_rfl) rfl ?_
  simp only [Try.ntmps66, St.start, argT]
  refine awp_seqK fun K hK => ?_
  refine awp_region (by kernel_rfl) ?_
  simp
  refine hK _ ?_; clear hK K
  refine awp_seqK fun K hK => ?_
  refine awp_region (by kernel_rfl) ?_
  simp
  refine hK _ ?_; clear hK K
  refine awp_ret ?_
  simp
theorem added_ok (xs : List (List V)) (t : Bool) (z : Nat) (s : List UInt8) (hz : z = 1 ∨ (z = 0 ∧ xs = [])) (hb : xs.length ≤ 1048576) : Meets Try.prog 65 [.sl z t xs, .str s] (.new 9 1 (xs ++ [[.str s]])) := by
  refine Meets.of Try.func65 rfl (by kernel_rfl) rfl ?_
  simp only [Try.ntmps65, St.start, argT]
  refine awp_seqK fun K hK => ?_
  refine awp_region (by kernel_rfl) ?_
  simp
  refine hK _ ?_; clear hK K
  refine awp_seqK fun K hK => ?_
  refine awp_region (by kernel_rfl) ?_
  simp
  refine hK _ ?_; clear hK K
  refine awp_seqK fun K hK => ?_
  refine awp_region (by kernel_rfl) ?_
  simp
  refine ⟨?_, ?_, ?_, ?_, hK _ ?_⟩
  · rcases hz with h | h <;> simp [h]
  · rcases hz with h | h <;> simp [h]
  · omega
  · simp [maxLen]; omega
  · refine awp_ret ?_
    simp
end Go.Proofs.Ytnjpakhnaegdgaa
