/- awake of law 25. -/
import Derived.Test.YtnjpakhnaegdgaaFn22
namespace Go.Proofs.Ytnjpakhnaegdgaa
open Go.Ab
set_option linter.unusedSimpArgs false
set_option maxRecDepth 100000
def oA : OutD := ⟨1, 3, 0, [97]⟩
def oB : OutD := ⟨1, 5, 0, [98]⟩
abbrev rA : List V := [.int .i64 1, .int .u64 3, .int .u32 0, .str [97]]
abbrev rB : List V := [.int .i64 1, .int .u64 5, .int .u32 0, .str [98]]
theorem aw1 : Meets Try.prog 48 [.st [.sl 4 false [], .int .u64 0, .int .u64 0], .sl 4 false [rA, rB]] (.tup [.st [.sl 4 false (outs [oA, oB]), .int .u64 0, .int .u64 0], .bool true]) := by
  have h := hold_ok [] [oA, oB] 0 0 (by simp) (by simp)
  have hB : holdB 0 [] [oA, oB] = true := by decide
  have hK : holdK 0 [oA, oB] = [oA, oB] := by decide
  have hC : holdC 0 0 [oA, oB] = 0 := by decide
  simp only [holdV, hB, hK, hC, if_true, List.nil_append] at h
  exact h
theorem aw2 : Meets Try.prog 50 [.st [.sl 4 false (outs [oA, oB]), .int .u64 0, .int .u64 0], .int .u64 4] (.tup [.st [.sl 4 false (outs [oB]), .int .u64 4, .int .u64 1], .sl 5 false [rA ++ [.int .u64 0]]]) := by
  have h := release_ok [oA, oB] 0 0 4 (by simp)
  have hB : relB 0 4 [oA, oB] = true := by decide
  have hE : early 4 [oA, oB] = [oA] := by decide
  have hL : relL 0 [oA] = [(oA, 0)] := by decide
  have hC : relC 0 [oA] = 1 := by simp [relC, oA, IntKind.wrap_u64]
  simp only [relV, hB, hE, hL, hC, if_true, List.length_cons, List.length_nil, List.drop_succ_cons, List.drop_zero] at h
  exact h
theorem aw3 : Meets Try.prog 50 [.st [.sl 4 false (outs [oB]), .int .u64 4, .int .u64 1], .int .u64 9] (.tup [.st [.sl 4 false [], .int .u64 9, .int .u64 2], .sl 5 false [rB ++ [.int .u64 1]]]) := by
  have h := release_ok [oB] 4 1 9 (by simp)
  have hB : relB 4 9 [oB] = true := by decide
  have hE : early 9 [oB] = [oB] := by decide
  have hL : relL 1 [oB] = [(oB, 1)] := by decide
  have hC : relC 1 [oB] = 2 := by simp [relC, oB, IntKind.wrap_u64]
  simp only [relV, hB, hE, hL, hC, if_true, List.length_cons, List.length_nil, List.drop_succ_cons, List.drop_zero] at h
  exact h
theorem aw4 : Meets Try.prog 52 [.st [.str [], .sl 1 false []], .st (rA ++ [.int .u64 0])] (.tup [.st [.str [97], .sl 1 false []], .bool true]) := by
  have h := show_ok [] [] oA 0 (by simp) (by simp) (by simp)
  have h1 : showC [] oA 0 = [97] := by decide
  have h2 : showF [] oA = [] := by decide
  have h3 : showB [] oA 0 = true := by decide
  rw [h1, h2, h3] at h
  exact h
set_option maxHeartbeats 4000000 in
theorem awake25_ok : Meets Try.prog 47 [] (.bool true) := by
  refine Meets.of Try.func47 rfl (by kernel_rfl) rfl ?_
  simp only [Try.ntmps47, St.start, argT]
  repeat (first | (with_reducible refine awp_seqK fun K hK => ?_) | (with_reducible refine awp_block ?_) | (with_reducible refine awp_region (by kernel_rfl) ?_; simp) | (first | (with_reducible refine hK _ ?_; clear hK) | (clear hK; (first | (with_reducible refine hK _ ?_; clear hK) | (clear hK; (first | (with_reducible refine hK _ ?_; clear hK) | (clear hK; (first | (with_reducible refine hK _ ?_; clear hK) | (clear hK; (first | (with_reducible refine hK _ ?_; clear hK) | (clear hK; (first | (with_reducible refine hK _ ?_; clear hK) | (clear hK; (first | (with_reducible refine hK _ ?_; clear hK) | (clear hK; (first | (with_reducible refine hK _ ?_; clear hK) | (clear hK; (first | (with_reducible refine hK _ ?_; clear hK) | (clear hK; (first | (with_reducible refine hK _ ?_; clear hK) | (clear hK; (first | (with_reducible refine hK _ ?_; clear hK) | (clear hK; (first | (with_reducible refine hK _ ?_; clear hK)))))))))))))))))))))))) | ((with_reducible first | refine gcall_tt ?_ | refine gcall_ff ?_ | refine gcall_tf ?_ | refine gcall_ft ?_); simp) | (with_reducible refine awp_skip ?_; simp) | (with_reducible refine awp_exit ?_; simp) | (refine And.intro (by first | omega | assumption | grind) ?_))
  first | refine ⟨0, _, aw1, ?_⟩ | refine ⟨0, _, Meets.wk (aw1) (by simp), ?_⟩
  simp [aftC, aftE]
  repeat (first | (with_reducible refine awp_seqK fun K hK => ?_) | (with_reducible refine awp_block ?_) | (with_reducible refine awp_region (by kernel_rfl) ?_; simp) | (first | (with_reducible refine hK _ ?_; clear hK) | (clear hK; (first | (with_reducible refine hK _ ?_; clear hK) | (clear hK; (first | (with_reducible refine hK _ ?_; clear hK) | (clear hK; (first | (with_reducible refine hK _ ?_; clear hK) | (clear hK; (first | (with_reducible refine hK _ ?_; clear hK) | (clear hK; (first | (with_reducible refine hK _ ?_; clear hK) | (clear hK; (first | (with_reducible refine hK _ ?_; clear hK) | (clear hK; (first | (with_reducible refine hK _ ?_; clear hK) | (clear hK; (first | (with_reducible refine hK _ ?_; clear hK) | (clear hK; (first | (with_reducible refine hK _ ?_; clear hK) | (clear hK; (first | (with_reducible refine hK _ ?_; clear hK) | (clear hK; (first | (with_reducible refine hK _ ?_; clear hK)))))))))))))))))))))))) | ((with_reducible first | refine gcall_tt ?_ | refine gcall_ff ?_ | refine gcall_tf ?_ | refine gcall_ft ?_); simp) | (with_reducible refine awp_skip ?_; simp) | (with_reducible refine awp_exit ?_; simp) | (refine And.intro (by first | omega | assumption | grind) ?_))
  first | refine ⟨0, _, aw2, ?_⟩ | refine ⟨0, _, Meets.wk (aw2) (by simp), ?_⟩
  simp [aftC, aftE]
  repeat (first | (with_reducible refine awp_seqK fun K hK => ?_) | (with_reducible refine awp_block ?_) | (with_reducible refine awp_region (by kernel_rfl) ?_; simp) | (first | (with_reducible refine hK _ ?_; clear hK) | (clear hK; (first | (with_reducible refine hK _ ?_; clear hK) | (clear hK; (first | (with_reducible refine hK _ ?_; clear hK) | (clear hK; (first | (with_reducible refine hK _ ?_; clear hK) | (clear hK; (first | (with_reducible refine hK _ ?_; clear hK) | (clear hK; (first | (with_reducible refine hK _ ?_; clear hK) | (clear hK; (first | (with_reducible refine hK _ ?_; clear hK) | (clear hK; (first | (with_reducible refine hK _ ?_; clear hK) | (clear hK; (first | (with_reducible refine hK _ ?_; clear hK) | (clear hK; (first | (with_reducible refine hK _ ?_; clear hK) | (clear hK; (first | (with_reducible refine hK _ ?_; clear hK) | (clear hK; (first | (with_reducible refine hK _ ?_; clear hK)))))))))))))))))))))))) | ((with_reducible first | refine gcall_tt ?_ | refine gcall_ff ?_ | refine gcall_tf ?_ | refine gcall_ft ?_); simp) | (with_reducible refine awp_skip ?_; simp) | (with_reducible refine awp_exit ?_; simp) | (refine And.intro (by first | omega | assumption | grind) ?_))
  first | refine ⟨0, _, aw3, ?_⟩ | refine ⟨0, _, Meets.wk (aw3) (by simp), ?_⟩
  simp [aftC, aftE]
  repeat (first | (with_reducible refine awp_seqK fun K hK => ?_) | (with_reducible refine awp_block ?_) | (with_reducible refine awp_region (by kernel_rfl) ?_; simp) | (first | (with_reducible refine hK _ ?_; clear hK) | (clear hK; (first | (with_reducible refine hK _ ?_; clear hK) | (clear hK; (first | (with_reducible refine hK _ ?_; clear hK) | (clear hK; (first | (with_reducible refine hK _ ?_; clear hK) | (clear hK; (first | (with_reducible refine hK _ ?_; clear hK) | (clear hK; (first | (with_reducible refine hK _ ?_; clear hK) | (clear hK; (first | (with_reducible refine hK _ ?_; clear hK) | (clear hK; (first | (with_reducible refine hK _ ?_; clear hK) | (clear hK; (first | (with_reducible refine hK _ ?_; clear hK) | (clear hK; (first | (with_reducible refine hK _ ?_; clear hK) | (clear hK; (first | (with_reducible refine hK _ ?_; clear hK) | (clear hK; (first | (with_reducible refine hK _ ?_; clear hK)))))))))))))))))))))))) | ((with_reducible first | refine gcall_tt ?_ | refine gcall_ff ?_ | refine gcall_tf ?_ | refine gcall_ft ?_); simp) | (with_reducible refine awp_skip ?_; simp) | (with_reducible refine awp_exit ?_; simp) | (refine And.intro (by first | omega | assumption | grind) ?_))
  refine awp_cond rfl (fun h => by simp at h) (fun _ => ?_)
  repeat (first | (with_reducible refine awp_seqK fun K hK => ?_) | (with_reducible refine awp_block ?_) | (with_reducible refine awp_region (by kernel_rfl) ?_; simp) | (first | (with_reducible refine hK _ ?_; clear hK) | (clear hK; (first | (with_reducible refine hK _ ?_; clear hK) | (clear hK; (first | (with_reducible refine hK _ ?_; clear hK) | (clear hK; (first | (with_reducible refine hK _ ?_; clear hK) | (clear hK; (first | (with_reducible refine hK _ ?_; clear hK) | (clear hK; (first | (with_reducible refine hK _ ?_; clear hK) | (clear hK; (first | (with_reducible refine hK _ ?_; clear hK) | (clear hK; (first | (with_reducible refine hK _ ?_; clear hK) | (clear hK; (first | (with_reducible refine hK _ ?_; clear hK) | (clear hK; (first | (with_reducible refine hK _ ?_; clear hK) | (clear hK; (first | (with_reducible refine hK _ ?_; clear hK) | (clear hK; (first | (with_reducible refine hK _ ?_; clear hK)))))))))))))))))))))))) | ((with_reducible first | refine gcall_tt ?_ | refine gcall_ff ?_ | refine gcall_tf ?_ | refine gcall_ft ?_); simp) | (with_reducible refine awp_skip ?_; simp) | (with_reducible refine awp_exit ?_; simp) | (refine And.intro (by first | omega | assumption | grind) ?_))
  first | refine ⟨0, _, aw4, ?_⟩ | refine ⟨0, _, Meets.wk (aw4) (by simp), ?_⟩
  simp [aftC, aftE]
  repeat (first | (with_reducible refine awp_seqK fun K hK => ?_) | (with_reducible refine awp_block ?_) | (with_reducible refine awp_region (by kernel_rfl) ?_; simp) | (first | (with_reducible refine hK _ ?_; clear hK) | (clear hK; (first | (with_reducible refine hK _ ?_; clear hK) | (clear hK; (first | (with_reducible refine hK _ ?_; clear hK) | (clear hK; (first | (with_reducible refine hK _ ?_; clear hK) | (clear hK; (first | (with_reducible refine hK _ ?_; clear hK) | (clear hK; (first | (with_reducible refine hK _ ?_; clear hK) | (clear hK; (first | (with_reducible refine hK _ ?_; clear hK) | (clear hK; (first | (with_reducible refine hK _ ?_; clear hK) | (clear hK; (first | (with_reducible refine hK _ ?_; clear hK) | (clear hK; (first | (with_reducible refine hK _ ?_; clear hK) | (clear hK; (first | (with_reducible refine hK _ ?_; clear hK) | (clear hK; (first | (with_reducible refine hK _ ?_; clear hK)))))))))))))))))))))))) | ((with_reducible first | refine gcall_tt ?_ | refine gcall_ff ?_ | refine gcall_tf ?_ | refine gcall_ft ?_); simp) | (with_reducible refine awp_skip ?_; simp) | (with_reducible refine awp_exit ?_; simp) | (refine And.intro (by first | omega | assumption | grind) ?_))
  refine awp_ret ?_
  simp
end Go.Proofs.Ytnjpakhnaegdgaa
