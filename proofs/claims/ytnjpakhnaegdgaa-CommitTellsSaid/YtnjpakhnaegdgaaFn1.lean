/- Contracts of package link's functions. -/
import Derived.Test.YtnjpakhnaegdgaaTy
namespace Go.Proofs.Ytnjpakhnaegdgaa
open Go.Ab
set_option linter.unusedSimpArgs false
set_option maxRecDepth 100000
theorem clone_ok (xs : List (List V)) (t : Bool) (z : Nat) (hz : z = 1 ∨ (z = 0 ∧ xs = [])) (hb : xs.length ≤ 1048576) : Meets Try.prog 63 [.sl z t xs] (.new 9 1 xs) := by
  refine Meets.of Try.func63 rfl (by kernel_rfl) rfl ?_
  simp only [Try.ntmps63, St.start, argT]
  refine awp_seqK fun K hK => ?_
  refine awp_region (by kernel_rfl) ?_
  simp
  refine hK _ ?_; clear hK K
  refine awp_seqK fun K hK => ?_
  refine awp_seqK fun K2 hK2 => ?_
  refine awp_region (by kernel_rfl) ?_
  simp
  refine ⟨hK2 _ ?_, fun hx => hK2 _ ?_⟩
  · refine awp_cond rfl (fun h => by cases h) (fun _ => awp_skip ?_)
    simp
    refine hK _ ?_
    refine awp_seqK fun K3 hK3 => ?_
    refine awp_region (by kernel_rfl) ?_
    simp
    refine ⟨?_, ?_, ?_, hK3 _ ?_⟩
    · rcases hz with h | h <;> simp [h]
    · omega
    · simp [maxLen]; omega
    · refine awp_ret ?_
      simp
  · subst hx
    refine awp_cond rfl (fun _ => ?_) (fun h => by cases h)
    refine awp_seqK fun K3 hK3 => ?_
    refine awp_region (by kernel_rfl) ?_
    simp
    refine hK3 _ ?_
    refine awp_nilOwn 2 9 1 (by decide) rfl ?_
    refine awp_ret ?_
    simp
theorem lclone_ok (xs : List (List V)) (t c : Bool) (z : Nat) (hz : z = 1 ∨ (z = 0 ∧ xs = [])) (hb : xs.length ≤ 1048576) : Meets Try.prog 64 [.st [.sl z t xs, .bool c]] (.st [.new 9 1 xs, .bool c]) := by
  refine Meets.of Try.func64 rfl (by kernel_rfl) rfl ?_
  simp only [Try.ntmps64, St.start, argT]
  refine awp_seqK fun K hK => ?_
  refine awp_region (by kernel_rfl) ?_
  simp
  refine hK _ ?_; clear hK K
  refine awp_seqK fun K hK => ?_
  refine awp_planI ([0, 1, 2, 3, 4, 5, 6] : List Nat) ([[], [0], [0, 1], [], [3], [0, 1, 2, 3, 4], [0, 1, 2, 3, 4, 5]] : List (List Nat)) ([(5, ([[], [0], [0, 1], [], [3]], [(4, 2)])), (1, ([], [])), (1, ([], []))] : List (Nat × List (List Nat) × List (Nat × Nat))) (by kernel_rfl) (by kernel_rfl) (by kernel_rfl) ?_
  repeat (first | (with_reducible refine awp_seqK fun K hK => ?_) | (with_reducible refine awp_block ?_) | (with_reducible refine awp_region (by kernel_rfl) ?_; simp) | (first | ((with_reducible first | refine hK _ ?_ | refine hK _ _ _ _ ?_); clear hK) | (clear hK; (first | ((with_reducible first | refine hK _ ?_ | refine hK _ _ _ _ ?_); clear hK) | (clear hK; (first | ((with_reducible first | refine hK _ ?_ | refine hK _ _ _ _ ?_); clear hK) | (clear hK; (first | ((with_reducible first | refine hK _ ?_ | refine hK _ _ _ _ ?_); clear hK) | (clear hK; (first | ((with_reducible first | refine hK _ ?_ | refine hK _ _ _ _ ?_); clear hK) | (clear hK; (first | ((with_reducible first | refine hK _ ?_ | refine hK _ _ _ _ ?_); clear hK) | (clear hK; (first | ((with_reducible first | refine hK _ ?_ | refine hK _ _ _ _ ?_); clear hK) | (clear hK; (first | ((with_reducible first | refine hK _ ?_ | refine hK _ _ _ _ ?_); clear hK) | (clear hK; (first | ((with_reducible first | refine hK _ ?_ | refine hK _ _ _ _ ?_); clear hK) | (clear hK; (first | ((with_reducible first | refine hK _ ?_ | refine hK _ _ _ _ ?_); clear hK) | (clear hK; (first | ((with_reducible first | refine hK _ ?_ | refine hK _ _ _ _ ?_); clear hK) | (clear hK; (first | ((with_reducible first | refine hK _ ?_ | refine hK _ _ _ _ ?_); clear hK)))))))))))))))))))))))) | ((with_reducible first | refine gcall_tt ?_ | refine gcall_ff ?_ | refine gcall_tf ?_ | refine gcall_ft ?_ | refine gcallE_tt ?_ | refine gcallE_ff ?_ | refine gcallE_tf ?_ | refine gcallE_ft ?_); simp) | (with_reducible refine awp_skip ?_; simp) | (with_reducible refine awp_exit ?_; simp) | (with_reducible refine segs_one fun K hK => ?_; simp) | (with_reducible refine segs_nil ?_; try simp only [thn, blk]) | (with_reducible refine segs_two fun K hK => ?_; simp only [List.take_succ_cons, List.take_zero]) | (with_reducible refine draw_step fun K hK => ?_; simp) | (with_reducible refine draw_end ?_) | (with_reducible refine rechk_nil ?_; simp only [List.drop_succ_cons, List.drop_zero]; simp only [stS, eT, eO, List.cons_append, List.nil_append, cond_true, cond_false, Bool.and_true, Bool.and_false, Bool.true_and, Bool.false_and]) | (with_reducible refine rechk_cons ?_ ?_; (· (simp <;> first | omega | grind))) | (refine And.intro (by first | omega | assumption | grind) ?_))
  first | refine ⟨0, _, clone_ok xs t z hz hb, ?_⟩ | refine ⟨0, _, Meets.wk (clone_ok xs t z hz hb) (by simp), ?_⟩
  simp [aftC, aftE]
  repeat (first | (with_reducible refine awp_seqK fun K hK => ?_) | (with_reducible refine awp_block ?_) | (with_reducible refine awp_region (by kernel_rfl) ?_; simp) | (first | ((with_reducible first | refine hK _ ?_ | refine hK _ _ _ _ ?_); clear hK) | (clear hK; (first | ((with_reducible first | refine hK _ ?_ | refine hK _ _ _ _ ?_); clear hK) | (clear hK; (first | ((with_reducible first | refine hK _ ?_ | refine hK _ _ _ _ ?_); clear hK) | (clear hK; (first | ((with_reducible first | refine hK _ ?_ | refine hK _ _ _ _ ?_); clear hK) | (clear hK; (first | ((with_reducible first | refine hK _ ?_ | refine hK _ _ _ _ ?_); clear hK) | (clear hK; (first | ((with_reducible first | refine hK _ ?_ | refine hK _ _ _ _ ?_); clear hK) | (clear hK; (first | ((with_reducible first | refine hK _ ?_ | refine hK _ _ _ _ ?_); clear hK) | (clear hK; (first | ((with_reducible first | refine hK _ ?_ | refine hK _ _ _ _ ?_); clear hK) | (clear hK; (first | ((with_reducible first | refine hK _ ?_ | refine hK _ _ _ _ ?_); clear hK) | (clear hK; (first | ((with_reducible first | refine hK _ ?_ | refine hK _ _ _ _ ?_); clear hK) | (clear hK; (first | ((with_reducible first | refine hK _ ?_ | refine hK _ _ _ _ ?_); clear hK) | (clear hK; (first | ((with_reducible first | refine hK _ ?_ | refine hK _ _ _ _ ?_); clear hK)))))))))))))))))))))))) | ((with_reducible first | refine gcall_tt ?_ | refine gcall_ff ?_ | refine gcall_tf ?_ | refine gcall_ft ?_ | refine gcallE_tt ?_ | refine gcallE_ff ?_ | refine gcallE_tf ?_ | refine gcallE_ft ?_); simp) | (with_reducible refine awp_skip ?_; simp) | (with_reducible refine awp_exit ?_; simp) | (with_reducible refine segs_one fun K hK => ?_; simp) | (with_reducible refine segs_nil ?_; try simp only [thn, blk]) | (with_reducible refine segs_two fun K hK => ?_; simp only [List.take_succ_cons, List.take_zero]) | (with_reducible refine draw_step fun K hK => ?_; simp) | (with_reducible refine draw_end ?_) | (with_reducible refine rechk_nil ?_; simp only [List.drop_succ_cons, List.drop_zero]; simp only [stS, eT, eO, List.cons_append, List.nil_append, cond_true, cond_false, Bool.and_true, Bool.and_false, Bool.true_and, Bool.false_and]) | (with_reducible refine rechk_cons ?_ ?_; (· (simp <;> first | omega | grind))) | (refine And.intro (by first | omega | assumption | grind) ?_))
  refine awp_ret ?_
  simp
theorem has_ok (xs : List (List V)) (z : Nat) (t cut : Bool) (at_ : Int) : Meets Try.prog 66 [.st [.sl z t xs, .bool cut], .int .i64 at_] (.bool (decide (0 ≤ at_) && decide (at_ < xs.length))) := by
  refine Meets.of Try.func66 rfl (by kernel_rfl) rfl ?_
  simp only [Try.ntmps66, St.start, argT]
  refine awp_seqK fun K hK => ?_
  refine awp_region (by kernel_rfl) ?_
  simp
  refine hK _ ?_; clear hK K
  refine awp_seqK fun K hK => ?_
  refine awp_region (by kernel_rfl) ?_
  simp
  refine hK _ ?_; clear hK K
  refine awp_ret ?_
  simp
theorem added_ok (xs : List (List V)) (t : Bool) (z : Nat) (s : List UInt8) (hz : z = 1 ∨ (z = 0 ∧ xs = [])) (hb : xs.length ≤ 1048576) : Meets Try.prog 65 [.sl z t xs, .str s] (.new 9 1 (xs ++ [[.str s]])) := by
  refine Meets.of Try.func65 rfl (by kernel_rfl) rfl ?_
  simp only [Try.ntmps65, St.start, argT]
  refine awp_seqK fun K hK => ?_
  refine awp_region (by kernel_rfl) ?_
  simp
  refine hK _ ?_; clear hK K
  refine awp_seqK fun K hK => ?_
  refine awp_region (by kernel_rfl) ?_
  simp
  refine hK _ ?_; clear hK K
  refine awp_seqK fun K hK => ?_
  refine awp_region (by kernel_rfl) ?_
  simp
  refine ⟨?_, ?_, ?_, ?_, hK _ ?_⟩
  · rcases hz with h | h <;> simp [h]
  · rcases hz with h | h <;> simp [h]
  · omega
  · simp [maxLen]; omega
  · refine awp_ret ?_
    simp
end Go.Proofs.Ytnjpakhnaegdgaa
