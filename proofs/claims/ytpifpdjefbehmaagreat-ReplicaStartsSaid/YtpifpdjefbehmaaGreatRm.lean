/- Replicas, the fixed run: a step of the machine. -/
import Derived.Test.YtpifpdjefbehmaaGreatRl
namespace Go.Proofs.YtpifpdjefbehmaaGreat
open Go.Ab Go.RowKit
set_option linter.unusedSimpArgs false
set_option maxRecDepth 100000
set_option maxHeartbeats 8000000
def cpA (s c : Int) : CpuD := ⟨fun _ => 0, 0, fun i => if i = 0 then s else if i = 3 then c else 0⟩
theorem mk_cpu (s c n : Int) : (mk s c n).cpu = cpA s c := rfl
theorem mk_mem (s c n : Int) : (mk s c n).mem = mem0 := rfl
theorem mem0_g : (ints .u32 mem0)[0]?.getD [] = [uv 0] := by kernel_rfl
theorem mem0_gg (h : 0 < (ints .u32 mem0).length) : (ints .u32 mem0)[0]'h = [uv 0] := by kernel_rfl
theorem pg0 : pagesD mem0 = 8 := by kernel_rfl
theorem bits32 : IntKind.u32.bits = 32 := rfl
theorem mask8_ok : Meets Tryz.prog 315 [iv 8] (uv 255) := by
  refine Meets.of Tryz.func315 rfl (by kernel_rfl) rfl ?_
  simp only [Tryz.ntmps315, St.start, argT]
  refine au ?_
  repeat intro K hK
  refine wr ?_
  (refine au4 @iand.eq_1 @ior.eq_1 @iandn.eq_1 @bits32 ?_; (repeat intro K hK); refine wr ?_)
  repeat' ((first | (refine awp_cond rfl (fun h => ?_) (fun h => ?_) <;> (first | (simp [iand, ior, iandn, bits32] at h; done) | (simp [iand, ior, iandn, bits32] at h) | skip) <;> (first | (exfalso; omega) | skip)) | (refine awp_ret ?_; simp [iand, ior, iandn, bits32]; (first | done | decide); done) | (refine awp_fzA ?_; refine awp_ret ?_; simp [iand, ior, iandn, bits32]; (first | done | decide); done) | fail) <;> (refine au4 @iand.eq_1 @ior.eq_1 @iandn.eq_1 @bits32 ?_; (repeat intro K hK); refine wr ?_))
theorem mask4_ok : Meets Tryz.prog 315 [iv 4] (uv 15) := by
  refine Meets.of Tryz.func315 rfl (by kernel_rfl) rfl ?_
  simp only [Tryz.ntmps315, St.start, argT]
  refine au ?_
  repeat intro K hK
  refine wr ?_
  (refine au4 @iand.eq_1 @ior.eq_1 @iandn.eq_1 @bits32 ?_; (repeat intro K hK); refine wr ?_)
  repeat' ((first | (refine awp_cond rfl (fun h => ?_) (fun h => ?_) <;> (first | (simp [iand, ior, iandn, bits32] at h; done) | (simp [iand, ior, iandn, bits32] at h) | skip) <;> (first | (exfalso; omega) | skip)) | (refine awp_ret ?_; simp [iand, ior, iandn, bits32]; (first | done | decide); done) | (refine awp_fzA ?_; refine awp_ret ?_; simp [iand, ior, iandn, bits32]; (first | done | decide); done) | fail) <;> (refine au4 @iand.eq_1 @ior.eq_1 @iandn.eq_1 @bits32 ?_; (repeat intro K hK); refine wr ?_))
theorem fieldA_ok : Meets Tryz.prog 288 [uv 0, iv 24, iv 8] (uv 0) := by
  refine Meets.of Tryz.func288 rfl (by kernel_rfl) rfl ?_
  simp only [Tryz.ntmps288, St.start, argT]
  refine au ?_
  repeat intro K hK
  refine wr ?_
  (refine au4 @iand.eq_1 @ior.eq_1 @iandn.eq_1 @bits32 ?_; (repeat intro K hK); refine wr ?_)
  repeat' ((first | (refine awp_cond rfl (fun h => ?_) (fun h => ?_) <;> (first | (simp [iand, ior, iandn, bits32] at h; done) | (simp [iand, ior, iandn, bits32] at h) | skip) <;> (first | (exfalso; omega) | skip)) | refine cc4 (mask8_ok) @iand.eq_1 @ior.eq_1 @iandn.eq_1 @bits32 ?_ | (refine awp_ret ?_; simp [iand, ior, iandn, bits32]; (first | done | decide); done) | (refine awp_fzA ?_; refine awp_ret ?_; simp [iand, ior, iandn, bits32]; (first | done | decide); done) | fail) <;> (refine au4 @iand.eq_1 @ior.eq_1 @iandn.eq_1 @bits32 ?_; (repeat intro K hK); refine wr ?_))
theorem fieldB_ok : Meets Tryz.prog 288 [uv 0, iv 20, iv 4] (uv 0) := by
  refine Meets.of Tryz.func288 rfl (by kernel_rfl) rfl ?_
  simp only [Tryz.ntmps288, St.start, argT]
  refine au ?_
  repeat intro K hK
  refine wr ?_
  (refine au4 @iand.eq_1 @ior.eq_1 @iandn.eq_1 @bits32 ?_; (repeat intro K hK); refine wr ?_)
  repeat' ((first | (refine awp_cond rfl (fun h => ?_) (fun h => ?_) <;> (first | (simp [iand, ior, iandn, bits32] at h; done) | (simp [iand, ior, iandn, bits32] at h) | skip) <;> (first | (exfalso; omega) | skip)) | refine cc4 (mask4_ok) @iand.eq_1 @ior.eq_1 @iandn.eq_1 @bits32 ?_ | (refine awp_ret ?_; simp [iand, ior, iandn, bits32]; (first | done | decide); done) | (refine awp_fzA ?_; refine awp_ret ?_; simp [iand, ior, iandn, bits32]; (first | done | decide); done) | fail) <;> (refine au4 @iand.eq_1 @ior.eq_1 @iandn.eq_1 @bits32 ?_; (repeat intro K hK); refine wr ?_))
theorem fieldC_ok : Meets Tryz.prog 288 [uv 0, iv 16, iv 4] (uv 0) := by
  refine Meets.of Tryz.func288 rfl (by kernel_rfl) rfl ?_
  simp only [Tryz.ntmps288, St.start, argT]
  refine au ?_
  repeat intro K hK
  refine wr ?_
  (refine au4 @iand.eq_1 @ior.eq_1 @iandn.eq_1 @bits32 ?_; (repeat intro K hK); refine wr ?_)
  repeat' ((first | (refine awp_cond rfl (fun h => ?_) (fun h => ?_) <;> (first | (simp [iand, ior, iandn, bits32] at h; done) | (simp [iand, ior, iandn, bits32] at h) | skip) <;> (first | (exfalso; omega) | skip)) | refine cc4 (mask4_ok) @iand.eq_1 @ior.eq_1 @iandn.eq_1 @bits32 ?_ | (refine awp_ret ?_; simp [iand, ior, iandn, bits32]; (first | done | decide); done) | (refine awp_fzA ?_; refine awp_ret ?_; simp [iand, ior, iandn, bits32]; (first | done | decide); done) | fail) <;> (refine au4 @iand.eq_1 @ior.eq_1 @iandn.eq_1 @bits32 ?_; (repeat intro K hK); refine wr ?_))
abbrev useV0 : V := .st [.bool false, .bool false, .bool false, .int .i32 0, .int .i32 0]
theorem use_ok : Meets Tryz.prog 289 [iv 0] (.tup [useV0, .bool false]) := by
  refine Meets.of Tryz.func289 rfl (by kernel_rfl) rfl ?_
  simp only [Tryz.ntmps289, St.start, argT]
  refine au ?_
  repeat intro K hK
  refine wr ?_
  (refine au ?_; (repeat intro K hK); refine wr ?_)
  repeat' ((first | (refine awp_cond rfl (fun h => ?_) (fun h => ?_) <;> (first | (simp at h; done) | (simp at h) | skip) <;> (first | (exfalso; omega) | skip)) | exact rt | fail) <;> (refine au ?_; (repeat intro K hK); refine wr ?_))
abbrev instV0 : V := .st [iv 0, iv 0, iv 0, iv 0, .int .i32 0]
theorem decode_ok : Meets Tryz.prog 227 [uv 0] (.tup [instV0, .bool false]) := by
  refine Meets.of Tryz.func227 rfl (by kernel_rfl) rfl ?_
  simp only [Tryz.ntmps227, St.start, argT]
  refine au ?_
  repeat intro K hK
  refine wr ?_
  (refine au ?_; (repeat intro K hK); refine wr ?_)
  repeat' ((first | (refine awp_cond rfl (fun h => ?_) (fun h => ?_) <;> (first | (simp at h; done) | (simp at h) | skip) <;> (first | (exfalso; omega) | skip)) | refine cc (fieldA_ok) ?_ | refine cc (fieldB_ok) ?_ | refine cc (fieldC_ok) ?_ | refine cc (use_ok) ?_ | exact rt | fail) <;> (refine au ?_; (repeat intro K hK); refine wr ?_))
theorem within_ok : Meets Tryz.prog 314 [memV mem0, uv 0, iv 4] (.bool true) := by
  refine Meets.of Tryz.func314 rfl (by kernel_rfl) rfl ?_
  simp only [Tryz.ntmps314, St.start, argT]
  refine au ?_
  repeat intro K hK
  refine wr ?_
  (refine au1 @pg0 ?_; (repeat intro K hK); refine wr ?_)
  repeat' ((first | (refine awp_cond rfl (fun h => ?_) (fun h => ?_) <;> (first | (simp [pg0] at h; done) | (simp [pg0] at h) | skip) <;> (first | (exfalso; omega) | skip)) | refine cc1 (pages_ok mem0) @pg0 ?_ | exact rt1 @pg0 | fail) <;> (refine au1 @pg0 ?_; (repeat intro K hK); refine wr ?_))
theorem load_ok : Meets Tryz.prog 287 [memV mem0, uv 0, iv 4] (.tup [uv 0, .bool true]) := by
  refine Meets.of Tryz.func287 rfl (by kernel_rfl) rfl ?_
  simp only [Tryz.ntmps287, St.start, argT]
  refine au ?_
  repeat intro K hK
  refine wr ?_
  (refine au3 @mem0_g @mem0_gg @mem0_l ?_; (repeat intro K hK); refine wr ?_)
  repeat' ((first | (refine awp_cond rfl (fun h => ?_) (fun h => ?_) <;> (first | (simp [mem0_g, mem0_gg, mem0_l] at h; done) | (simp [mem0_g, mem0_gg, mem0_l] at h) | skip) <;> (first | (exfalso; omega) | skip)) | refine cc3 (within_ok) @mem0_g @mem0_gg @mem0_l ?_ | exact rt3 @mem0_g @mem0_gg @mem0_l | fail) <;> (refine au3 @mem0_g @mem0_gg @mem0_l ?_; (repeat intro K hK); refine wr ?_))
theorem cause_ok : Meets Tryz.prog 311 [iv 1] (.tup [iv 4, .bool true]) := by
  refine Meets.of Tryz.func311 rfl (by kernel_rfl) rfl ?_
  simp only [Tryz.ntmps311, St.start, argT]
  refine au ?_
  repeat intro K hK
  refine wr ?_
  (refine au ?_; (repeat intro K hK); refine wr ?_)
  repeat' ((first | (refine awp_cond rfl (fun h => ?_) (fun h => ?_) <;> (first | (simp at h; done) | (simp at h) | skip) <;> (first | (exfalso; omega) | skip)) | exact rt | fail) <;> (refine au ?_; (repeat intro K hK); refine wr ?_))
theorem moveA_ok : Meets Tryz.prog 285 [uv 1, uv 1, uv 8] (uv 9) := by
  refine Meets.of Tryz.func285 rfl (by kernel_rfl) rfl ?_
  simp only [Tryz.ntmps285, St.start, argT]
  refine au ?_
  repeat intro K hK
  refine wr ?_
  (refine au4 @iand.eq_1 @ior.eq_1 @iandn.eq_1 @bits32 ?_; (repeat intro K hK); refine wr ?_)
  repeat' ((first | (refine awp_cond rfl (fun h => ?_) (fun h => ?_) <;> (first | (simp [iand, ior, iandn, bits32] at h; done) | (simp [iand, ior, iandn, bits32] at h) | skip) <;> (first | (exfalso; omega) | skip)) | (refine awp_ret ?_; simp [iand, ior, iandn, bits32]; (first | done | decide); done) | (refine awp_fzA ?_; refine awp_ret ?_; simp [iand, ior, iandn, bits32]; (first | done | decide); done) | fail) <;> (refine au4 @iand.eq_1 @ior.eq_1 @iandn.eq_1 @bits32 ?_; (repeat intro K hK); refine wr ?_))
theorem moveB_ok : Meets Tryz.prog 285 [uv 9, uv 2, uv 16] (uv 9) := by
  refine Meets.of Tryz.func285 rfl (by kernel_rfl) rfl ?_
  simp only [Tryz.ntmps285, St.start, argT]
  refine au ?_
  repeat intro K hK
  refine wr ?_
  (refine au4 @iand.eq_1 @ior.eq_1 @iandn.eq_1 @bits32 ?_; (repeat intro K hK); refine wr ?_)
  repeat' ((first | (refine awp_cond rfl (fun h => ?_) (fun h => ?_) <;> (first | (simp [iand, ior, iandn, bits32] at h; done) | (simp [iand, ior, iandn, bits32] at h) | skip) <;> (first | (exfalso; omega) | skip)) | (refine awp_ret ?_; simp [iand, ior, iandn, bits32]; (first | done | decide); done) | (refine awp_fzA ?_; refine awp_ret ?_; simp [iand, ior, iandn, bits32]; (first | done | decide); done) | fail) <;> (refine au4 @iand.eq_1 @ior.eq_1 @iandn.eq_1 @bits32 ?_; (repeat intro K hK); refine wr ?_))
theorem moveC_ok : Meets Tryz.prog 285 [uv 9, uv 1, uv 8] (uv 9) := by
  refine Meets.of Tryz.func285 rfl (by kernel_rfl) rfl ?_
  simp only [Tryz.ntmps285, St.start, argT]
  refine au ?_
  repeat intro K hK
  refine wr ?_
  (refine au4 @iand.eq_1 @ior.eq_1 @iandn.eq_1 @bits32 ?_; (repeat intro K hK); refine wr ?_)
  repeat' ((first | (refine awp_cond rfl (fun h => ?_) (fun h => ?_) <;> (first | (simp [iand, ior, iandn, bits32] at h; done) | (simp [iand, ior, iandn, bits32] at h) | skip) <;> (first | (exfalso; omega) | skip)) | (refine awp_ret ?_; simp [iand, ior, iandn, bits32]; (first | done | decide); done) | (refine awp_fzA ?_; refine awp_ret ?_; simp [iand, ior, iandn, bits32]; (first | done | decide); done) | fail) <;> (refine au4 @iand.eq_1 @ior.eq_1 @iandn.eq_1 @bits32 ?_; (repeat intro K hK); refine wr ?_))
theorem kernel1_ok : Meets Tryz.prog 229 [.st (cpA 1 0).row] (.bool true) := by
  refine Meets.of Tryz.func229 rfl (by kernel_rfl) rfl ?_
  simp only [Tryz.ntmps229, St.start, argT]
  refine au ?_
  repeat intro K hK
  refine wr ?_
  (refine au5 @cpA.eq_1 @iand.eq_1 @ior.eq_1 @iandn.eq_1 @bits32 ?_; (repeat intro K hK); refine wr ?_)
  repeat' ((first | (refine awp_cond rfl (fun h => ?_) (fun h => ?_) <;> (first | (simp [cpA, iand, ior, iandn, bits32] at h; done) | (simp [cpA, iand, ior, iandn, bits32] at h) | skip) <;> (first | (exfalso; omega) | skip)) | (refine awp_ret ?_; simp [cpA, iand, ior, iandn, bits32]; (first | done | decide); done) | (refine awp_fzA ?_; refine awp_ret ?_; simp [cpA, iand, ior, iandn, bits32]; (first | done | decide); done) | fail) <;> (refine au5 @cpA.eq_1 @iand.eq_1 @ior.eq_1 @iandn.eq_1 @bits32 ?_; (repeat intro K hK); refine wr ?_))
theorem trap1_ok : Meets Tryz.prog 225 [.st (cpA 1 0).row, iv 1, uv 0] (.st (cpA 9 1).row) := by
  refine Meets.of Tryz.func225 rfl (by kernel_rfl) rfl ?_
  simp only [Tryz.ntmps225, St.start, argT]
  refine au ?_
  repeat intro K hK
  refine wr ?_
  (refine au5 @cpA.eq_1 @iand.eq_1 @ior.eq_1 @iandn.eq_1 @bits32 ?_; (repeat intro K hK); refine wr ?_)
  repeat' ((first | (refine awp_cond rfl (fun h => ?_) (fun h => ?_) <;> (first | (simp [cpA, iand, ior, iandn, bits32] at h; done) | (simp [cpA, iand, ior, iandn, bits32] at h) | skip) <;> (first | (exfalso; omega) | skip)) | refine cc5 (moveA_ok) @cpA.eq_1 @iand.eq_1 @ior.eq_1 @iandn.eq_1 @bits32 ?_ | refine cc5 (moveB_ok) @cpA.eq_1 @iand.eq_1 @ior.eq_1 @iandn.eq_1 @bits32 ?_ | refine cc5 (moveC_ok) @cpA.eq_1 @iand.eq_1 @ior.eq_1 @iandn.eq_1 @bits32 ?_ | (refine awp_ret ?_; simp [cpA, iand, ior, iandn, bits32]; (first | done | decide); done) | (refine awp_fzA ?_; refine awp_ret ?_; simp [cpA, iand, ior, iandn, bits32]; (first | done | decide); done) | fail) <;> (refine au5 @cpA.eq_1 @iand.eq_1 @ior.eq_1 @iandn.eq_1 @bits32 ?_; (repeat intro K hK); refine wr ?_))
theorem resolve1_ok : Meets Tryz.prog 286 [.st (cpA 1 0).row, memV mem0, uv 0, iv 4, iv 1] (.tup [uv 0, memV mem0, iv 0]) := by
  refine Meets.of Tryz.func286 rfl (by kernel_rfl) rfl ?_
  simp only [Tryz.ntmps286, St.start, argT]
  refine au ?_
  repeat intro K hK
  refine wr ?_
  (refine af5 @cpA.eq_1 @iand.eq_1 @ior.eq_1 @iandn.eq_1 @bits32 ?_; (repeat intro K hK); refine wr ?_)
  repeat' ((first | (refine awp_cond rfl (fun h => ?_) (fun h => ?_) <;> (first | (simp [cpA, iand, ior, iandn, bits32] at h; done) | (simp [cpA, iand, ior, iandn, bits32] at h) | skip) <;> (first | (exfalso; omega) | skip)) | refine cc5 (cause_ok) @cpA.eq_1 @iand.eq_1 @ior.eq_1 @iandn.eq_1 @bits32 ?_ | refine cc5 (kernel1_ok) @cpA.eq_1 @iand.eq_1 @ior.eq_1 @iandn.eq_1 @bits32 ?_ | refine cc5 (load_ok) @cpA.eq_1 @iand.eq_1 @ior.eq_1 @iandn.eq_1 @bits32 ?_ | refine cc5 (cloneW (ints .u32 mem0) false 1 (.inl rfl) (by rw [mem0_l]; decide)) @cpA.eq_1 @iand.eq_1 @ior.eq_1 @iandn.eq_1 @bits32 ?_ | (refine awp_planI (rid := 9) ([0, 1, 2, 3, 4, 5, 6] : List Nat) ([[], [0], [], [2], [0, 1], [0, 1, 4], [0, 1, 2, 3, 4, 5]] : List (List Nat)) ([(6, ([[], [0], [], [2], [0, 1], [0, 1, 4]], [(3, 1)])), (1, ([], []))] : List (Nat × List (List Nat) × List (Nat × Nat))) (by kernel_rfl) (by kernel_rfl) (by kernel_rfl) ?_) | (refine awp_planI (rid := 10) ([0, 1, 2, 3, 4, 5, 6, 7, 8, 9] : List Nat) ([[], [0], [], [], [3], [], [2, 3, 4, 5], [0, 1, 2, 3, 4, 5, 6], [0, 1, 2, 3, 4, 5, 6, 7], [0, 1, 2, 3, 4, 5, 6, 7, 8]] : List (List Nat)) ([(7, ([[], [0], [], [], [3], [], [2, 3, 4, 5]], [(1, 6)])), (1, ([], [])), (1, ([], [])), (1, ([], []))] : List (Nat × List (List Nat) × List (Nat × Nat))) (by kernel_rfl) (by kernel_rfl) (by kernel_rfl) ?_) | exact rt5 @cpA.eq_1 @iand.eq_1 @ior.eq_1 @iandn.eq_1 @bits32 | fail) <;> (refine af5 @cpA.eq_1 @iand.eq_1 @ior.eq_1 @iandn.eq_1 @bits32 ?_; (repeat intro K hK); refine wr ?_))
theorem fetch1_ok : Meets Tryz.prog 226 [.st (cpA 1 0).row, memV mem0] (.tup [uv 0, memV mem0, iv 0]) := by
  refine Meets.of Tryz.func226 rfl (by kernel_rfl) rfl ?_
  simp only [Tryz.ntmps226, St.start, argT]
  refine au ?_
  repeat intro K hK
  refine wr ?_
  (refine au5 @cpA.eq_1 @iand.eq_1 @ior.eq_1 @iandn.eq_1 @bits32 ?_; (repeat intro K hK); refine wr ?_)
  repeat' ((first | (refine awp_cond rfl (fun h => ?_) (fun h => ?_) <;> (first | (simp [cpA, iand, ior, iandn, bits32] at h; done) | (simp [cpA, iand, ior, iandn, bits32] at h) | skip) <;> (first | (exfalso; omega) | skip)) | refine cc5 (resolve1_ok) @cpA.eq_1 @iand.eq_1 @ior.eq_1 @iandn.eq_1 @bits32 ?_ | refine cc5 (load_ok) @cpA.eq_1 @iand.eq_1 @ior.eq_1 @iandn.eq_1 @bits32 ?_ | exact rt5 @cpA.eq_1 @iand.eq_1 @ior.eq_1 @iandn.eq_1 @bits32 | fail) <;> (refine au5 @cpA.eq_1 @iand.eq_1 @ior.eq_1 @iandn.eq_1 @bits32 ?_; (repeat intro K hK); refine wr ?_))
theorem exec1_ok : Meets Tryz.prog 172 [.st (cpA 1 0).row, memV mem0] (.tup [.st (cpA 9 1).row, memV mem0, .st [iv 0, iv 0, iv 0, uv 0]]) := by
  refine Meets.of Tryz.func172 rfl (by kernel_rfl) rfl ?_
  simp only [Tryz.ntmps172, St.start, argT]
  refine au ?_
  repeat intro K hK
  refine wr ?_
  (refine af5 @cpA.eq_1 @iand.eq_1 @ior.eq_1 @iandn.eq_1 @bits32 ?_; (repeat intro K hK); refine wr ?_)
  repeat' ((first | (refine awp_cond rfl (fun h => ?_) (fun h => ?_) <;> (first | (simp [cpA, iand, ior, iandn, bits32] at h; done) | (simp [cpA, iand, ior, iandn, bits32] at h) | skip) <;> (first | (exfalso; omega) | skip)) | refine cc5 (fetch1_ok) @cpA.eq_1 @iand.eq_1 @ior.eq_1 @iandn.eq_1 @bits32 ?_ | refine cc5 (decode_ok) @cpA.eq_1 @iand.eq_1 @ior.eq_1 @iandn.eq_1 @bits32 ?_ | refine cc5 (trap1_ok) @cpA.eq_1 @iand.eq_1 @ior.eq_1 @iandn.eq_1 @bits32 ?_ | (refine awp_planI ([0, 1, 2, 3, 4, 5] : List Nat) ([[], [], [], [0], [0, 1, 3], [0, 1, 2, 3, 4]] : List (List Nat)) ([(5, ([[], [], [], [0], [0, 1, 3]], [(2, 3)])), (1, ([], []))] : List (Nat × List (List Nat) × List (Nat × Nat))) (by kernel_rfl) (by kernel_rfl) (by kernel_rfl) ?_) | exact rt5 @cpA.eq_1 @iand.eq_1 @ior.eq_1 @iandn.eq_1 @bits32 | fail) <;> (refine af5 @cpA.eq_1 @iand.eq_1 @ior.eq_1 @iandn.eq_1 @bits32 ?_; (repeat intro K hK); refine wr ?_))
theorem kernel9_ok : Meets Tryz.prog 229 [.st (cpA 9 1).row] (.bool true) := by
  refine Meets.of Tryz.func229 rfl (by kernel_rfl) rfl ?_
  simp only [Tryz.ntmps229, St.start, argT]
  refine au ?_
  repeat intro K hK
  refine wr ?_
  (refine au5 @cpA.eq_1 @iand.eq_1 @ior.eq_1 @iandn.eq_1 @bits32 ?_; (repeat intro K hK); refine wr ?_)
  repeat' ((first | (refine awp_cond rfl (fun h => ?_) (fun h => ?_) <;> (first | (simp [cpA, iand, ior, iandn, bits32] at h; done) | (simp [cpA, iand, ior, iandn, bits32] at h) | skip) <;> (first | (exfalso; omega) | skip)) | (refine awp_ret ?_; simp [cpA, iand, ior, iandn, bits32]; (first | done | decide); done) | (refine awp_fzA ?_; refine awp_ret ?_; simp [cpA, iand, ior, iandn, bits32]; (first | done | decide); done) | fail) <;> (refine au5 @cpA.eq_1 @iand.eq_1 @ior.eq_1 @iandn.eq_1 @bits32 ?_; (repeat intro K hK); refine wr ?_))
theorem trap9_ok : Meets Tryz.prog 225 [.st (cpA 9 1).row, iv 1, uv 0] (.st (cpA 9 1).row) := by
  refine Meets.of Tryz.func225 rfl (by kernel_rfl) rfl ?_
  simp only [Tryz.ntmps225, St.start, argT]
  refine au ?_
  repeat intro K hK
  refine wr ?_
  (refine au5 @cpA.eq_1 @iand.eq_1 @ior.eq_1 @iandn.eq_1 @bits32 ?_; (repeat intro K hK); refine wr ?_)
  repeat' ((first | (refine awp_cond rfl (fun h => ?_) (fun h => ?_) <;> (first | (simp [cpA, iand, ior, iandn, bits32] at h; done) | (simp [cpA, iand, ior, iandn, bits32] at h) | skip) <;> (first | (exfalso; omega) | skip)) | refine cc5 (moveA_ok) @cpA.eq_1 @iand.eq_1 @ior.eq_1 @iandn.eq_1 @bits32 ?_ | refine cc5 (moveB_ok) @cpA.eq_1 @iand.eq_1 @ior.eq_1 @iandn.eq_1 @bits32 ?_ | refine cc5 (moveC_ok) @cpA.eq_1 @iand.eq_1 @ior.eq_1 @iandn.eq_1 @bits32 ?_ | (refine awp_ret ?_; simp [cpA, iand, ior, iandn, bits32]; (first | done | decide); done) | (refine awp_fzA ?_; refine awp_ret ?_; simp [cpA, iand, ior, iandn, bits32]; (first | done | decide); done) | fail) <;> (refine au5 @cpA.eq_1 @iand.eq_1 @ior.eq_1 @iandn.eq_1 @bits32 ?_; (repeat intro K hK); refine wr ?_))
theorem resolve9_ok : Meets Tryz.prog 286 [.st (cpA 9 1).row, memV mem0, uv 0, iv 4, iv 1] (.tup [uv 0, memV mem0, iv 0]) := by
  refine Meets.of Tryz.func286 rfl (by kernel_rfl) rfl ?_
  simp only [Tryz.ntmps286, St.start, argT]
  refine au ?_
  repeat intro K hK
  refine wr ?_
  (refine af5 @cpA.eq_1 @iand.eq_1 @ior.eq_1 @iandn.eq_1 @bits32 ?_; (repeat intro K hK); refine wr ?_)
  repeat' ((first | (refine awp_cond rfl (fun h => ?_) (fun h => ?_) <;> (first | (simp [cpA, iand, ior, iandn, bits32] at h; done) | (simp [cpA, iand, ior, iandn, bits32] at h) | skip) <;> (first | (exfalso; omega) | skip)) | refine cc5 (cause_ok) @cpA.eq_1 @iand.eq_1 @ior.eq_1 @iandn.eq_1 @bits32 ?_ | refine cc5 (kernel9_ok) @cpA.eq_1 @iand.eq_1 @ior.eq_1 @iandn.eq_1 @bits32 ?_ | refine cc5 (load_ok) @cpA.eq_1 @iand.eq_1 @ior.eq_1 @iandn.eq_1 @bits32 ?_ | refine cc5 (cloneW (ints .u32 mem0) false 1 (.inl rfl) (by rw [mem0_l]; decide)) @cpA.eq_1 @iand.eq_1 @ior.eq_1 @iandn.eq_1 @bits32 ?_ | (refine awp_planI (rid := 9) ([0, 1, 2, 3, 4, 5, 6] : List Nat) ([[], [0], [], [2], [0, 1], [0, 1, 4], [0, 1, 2, 3, 4, 5]] : List (List Nat)) ([(6, ([[], [0], [], [2], [0, 1], [0, 1, 4]], [(3, 1)])), (1, ([], []))] : List (Nat × List (List Nat) × List (Nat × Nat))) (by kernel_rfl) (by kernel_rfl) (by kernel_rfl) ?_) | (refine awp_planI (rid := 10) ([0, 1, 2, 3, 4, 5, 6, 7, 8, 9] : List Nat) ([[], [0], [], [], [3], [], [2, 3, 4, 5], [0, 1, 2, 3, 4, 5, 6], [0, 1, 2, 3, 4, 5, 6, 7], [0, 1, 2, 3, 4, 5, 6, 7, 8]] : List (List Nat)) ([(7, ([[], [0], [], [], [3], [], [2, 3, 4, 5]], [(1, 6)])), (1, ([], [])), (1, ([], [])), (1, ([], []))] : List (Nat × List (List Nat) × List (Nat × Nat))) (by kernel_rfl) (by kernel_rfl) (by kernel_rfl) ?_) | exact rt5 @cpA.eq_1 @iand.eq_1 @ior.eq_1 @iandn.eq_1 @bits32 | fail) <;> (refine af5 @cpA.eq_1 @iand.eq_1 @ior.eq_1 @iandn.eq_1 @bits32 ?_; (repeat intro K hK); refine wr ?_))
theorem fetch9_ok : Meets Tryz.prog 226 [.st (cpA 9 1).row, memV mem0] (.tup [uv 0, memV mem0, iv 0]) := by
  refine Meets.of Tryz.func226 rfl (by kernel_rfl) rfl ?_
  simp only [Tryz.ntmps226, St.start, argT]
  refine au ?_
  repeat intro K hK
  refine wr ?_
  (refine au5 @cpA.eq_1 @iand.eq_1 @ior.eq_1 @iandn.eq_1 @bits32 ?_; (repeat intro K hK); refine wr ?_)
  repeat' ((first | (refine awp_cond rfl (fun h => ?_) (fun h => ?_) <;> (first | (simp [cpA, iand, ior, iandn, bits32] at h; done) | (simp [cpA, iand, ior, iandn, bits32] at h) | skip) <;> (first | (exfalso; omega) | skip)) | refine cc5 (resolve9_ok) @cpA.eq_1 @iand.eq_1 @ior.eq_1 @iandn.eq_1 @bits32 ?_ | refine cc5 (load_ok) @cpA.eq_1 @iand.eq_1 @ior.eq_1 @iandn.eq_1 @bits32 ?_ | exact rt5 @cpA.eq_1 @iand.eq_1 @ior.eq_1 @iandn.eq_1 @bits32 | fail) <;> (refine au5 @cpA.eq_1 @iand.eq_1 @ior.eq_1 @iandn.eq_1 @bits32 ?_; (repeat intro K hK); refine wr ?_))
theorem exec9_ok : Meets Tryz.prog 172 [.st (cpA 9 1).row, memV mem0] (.tup [.st (cpA 9 1).row, memV mem0, .st [iv 0, iv 0, iv 0, uv 0]]) := by
  refine Meets.of Tryz.func172 rfl (by kernel_rfl) rfl ?_
  simp only [Tryz.ntmps172, St.start, argT]
  refine au ?_
  repeat intro K hK
  refine wr ?_
  (refine af5 @cpA.eq_1 @iand.eq_1 @ior.eq_1 @iandn.eq_1 @bits32 ?_; (repeat intro K hK); refine wr ?_)
  repeat' ((first | (refine awp_cond rfl (fun h => ?_) (fun h => ?_) <;> (first | (simp [cpA, iand, ior, iandn, bits32] at h; done) | (simp [cpA, iand, ior, iandn, bits32] at h) | skip) <;> (first | (exfalso; omega) | skip)) | refine cc5 (fetch9_ok) @cpA.eq_1 @iand.eq_1 @ior.eq_1 @iandn.eq_1 @bits32 ?_ | refine cc5 (decode_ok) @cpA.eq_1 @iand.eq_1 @ior.eq_1 @iandn.eq_1 @bits32 ?_ | refine cc5 (trap9_ok) @cpA.eq_1 @iand.eq_1 @ior.eq_1 @iandn.eq_1 @bits32 ?_ | (refine awp_planI ([0, 1, 2, 3, 4, 5] : List Nat) ([[], [], [], [0], [0, 1, 3], [0, 1, 2, 3, 4]] : List (List Nat)) ([(5, ([[], [], [], [0], [0, 1, 3]], [(2, 3)])), (1, ([], []))] : List (Nat × List (List Nat) × List (Nat × Nat))) (by kernel_rfl) (by kernel_rfl) (by kernel_rfl) ?_) | exact rt5 @cpA.eq_1 @iand.eq_1 @ior.eq_1 @iandn.eq_1 @bits32 | fail) <;> (refine af5 @cpA.eq_1 @iand.eq_1 @ior.eq_1 @iandn.eq_1 @bits32 ?_; (repeat intro K hK); refine wr ?_))
end Go.Proofs.YtpifpdjefbehmaaGreat
