/- Replicas, the fixed run: the backup executes. -/
import Derived.Test.YtpifpdjefbehmaaGreatTb
namespace Go.Proofs.YtpifpdjefbehmaaGreat
open Go.Ab Go.RowKit
set_option linter.unusedSimpArgs false
set_option maxRecDepth 100000
set_option maxHeartbeats 16000000
theorem rclkA_ok : Meets Tryz.prog 123 [.st (rplR 1 0 0 3).row] (.tup [uv 0, .bool false, .bool true]) := by
  refine Meets.of Tryz.func123 rfl (by kernel_rfl) rfl ?_
  simp only [Tryz.ntmps123, St.start, argT]
  refine au ?_
  repeat intro K hK
  refine wr ?_
  (refine af ?_; (repeat intro K hK); refine wr ?_)
  repeat' ((first | (refine awp_cond rfl (fun h => ?_) (fun h => ?_) <;> (first | (simp at h; done) | (simp at h) | skip) <;> (first | (exfalso; omega) | skip)) | refine cc (readsA_ok) ?_ | (refine awp_planI ([0, 1, 2, 3, 4, 5, 6, 7, 8, 9, 10, 11, 12, 13, 14] : List Nat) ([[], [0], [0, 1], [], [3], [3, 4], [3, 4, 5], [3, 4], [3, 4, 7], [3, 4, 7, 8], [3, 4, 5, 6, 7, 8, 9], [3, 4, 5, 6, 7, 8, 9, 10], [0, 1, 2, 3, 4], [0, 1, 2, 3, 4, 12], [0, 1, 2, 3, 4, 5, 6, 7, 8, 9, 10, 11, 12, 13]] : List (List Nat)) ([(14, ([[], [0], [0, 1], [], [3], [3, 4], [3, 4, 5], [3, 4], [3, 4, 7], [3, 4, 7, 8], [3, 4, 5, 6, 7, 8, 9], [3, 4, 5, 6, 7, 8, 9, 10], [0, 1, 2, 3, 4], [0, 1, 2, 3, 4, 12]], [])), (1, ([], []))] : List (Nat × List (List Nat) × List (Nat × Nat))) (by kernel_rfl) (by kernel_rfl) (by kernel_rfl) ?_) | exact rt | fail) <;> (refine af ?_; (repeat intro K hK); refine wr ?_))
theorem rclkB_ok : Meets Tryz.prog 123 [.st (rplR 9 1 1 3).row] (.tup [uv 0, .bool false, .bool true]) := by
  refine Meets.of Tryz.func123 rfl (by kernel_rfl) rfl ?_
  simp only [Tryz.ntmps123, St.start, argT]
  refine au ?_
  repeat intro K hK
  refine wr ?_
  (refine af ?_; (repeat intro K hK); refine wr ?_)
  repeat' ((first | (refine awp_cond rfl (fun h => ?_) (fun h => ?_) <;> (first | (simp at h; done) | (simp at h) | skip) <;> (first | (exfalso; omega) | skip)) | refine cc (readsB_ok) ?_ | (refine awp_planI ([0, 1, 2, 3, 4, 5, 6, 7, 8, 9, 10, 11, 12, 13, 14] : List Nat) ([[], [0], [0, 1], [], [3], [3, 4], [3, 4, 5], [3, 4], [3, 4, 7], [3, 4, 7, 8], [3, 4, 5, 6, 7, 8, 9], [3, 4, 5, 6, 7, 8, 9, 10], [0, 1, 2, 3, 4], [0, 1, 2, 3, 4, 12], [0, 1, 2, 3, 4, 5, 6, 7, 8, 9, 10, 11, 12, 13]] : List (List Nat)) ([(14, ([[], [0], [0, 1], [], [3], [3, 4], [3, 4, 5], [3, 4], [3, 4, 7], [3, 4, 7, 8], [3, 4, 5, 6, 7, 8, 9], [3, 4, 5, 6, 7, 8, 9, 10], [0, 1, 2, 3, 4], [0, 1, 2, 3, 4, 12]], [])), (1, ([], []))] : List (Nat × List (List Nat) × List (Nat × Nat))) (by kernel_rfl) (by kernel_rfl) (by kernel_rfl) ?_) | exact rt | fail) <;> (refine af ?_; (repeat intro K hK); refine wr ?_))
theorem rclkC_ok : Meets Tryz.prog 123 [.st (rplR 9 1 2 3).row] (.tup [uv 0, .bool false, .bool true]) := by
  refine Meets.of Tryz.func123 rfl (by kernel_rfl) rfl ?_
  simp only [Tryz.ntmps123, St.start, argT]
  refine au ?_
  repeat intro K hK
  refine wr ?_
  (refine af ?_; (repeat intro K hK); refine wr ?_)
  repeat' ((first | (refine awp_cond rfl (fun h => ?_) (fun h => ?_) <;> (first | (simp at h; done) | (simp at h) | skip) <;> (first | (exfalso; omega) | skip)) | refine cc (readsC_ok) ?_ | (refine awp_planI ([0, 1, 2, 3, 4, 5, 6, 7, 8, 9, 10, 11, 12, 13, 14] : List Nat) ([[], [0], [0, 1], [], [3], [3, 4], [3, 4, 5], [3, 4], [3, 4, 7], [3, 4, 7, 8], [3, 4, 5, 6, 7, 8, 9], [3, 4, 5, 6, 7, 8, 9, 10], [0, 1, 2, 3, 4], [0, 1, 2, 3, 4, 12], [0, 1, 2, 3, 4, 5, 6, 7, 8, 9, 10, 11, 12, 13]] : List (List Nat)) ([(14, ([[], [0], [0, 1], [], [3], [3, 4], [3, 4, 5], [3, 4], [3, 4, 7], [3, 4, 7, 8], [3, 4, 5, 6, 7, 8, 9], [3, 4, 5, 6, 7, 8, 9, 10], [0, 1, 2, 3, 4], [0, 1, 2, 3, 4, 12]], [])), (1, ([], []))] : List (Nat × List (List Nat) × List (Nat × Nat))) (by kernel_rfl) (by kernel_rfl) (by kernel_rfl) ?_) | exact rt | fail) <;> (refine af ?_; (repeat intro K hK); refine wr ?_))
theorem radv_ok : Meets Tryz.prog 73 [.st (rplR 1 0 0 3).row, iv 3] (.tup [.st (rplR 9 1 3 3).row, .sl 4 false []]) := by
  refine Meets.of Tryz.func73 rfl (by kernel_rfl) rfl ?_
  simp only [Tryz.ntmps73, St.start, argT]
  refine au ?_
  repeat intro K hK
  refine wr ?_
  (refine au1 @mk.eq_1 ?_; (repeat intro K hK); refine wr ?_)
  repeat' ((first | (refine awp_cond rfl (fun h => ?_) (fun h => ?_) <;> (first | (simp [mk] at h; done) | (simp [mk] at h) | skip) <;> (first | (exfalso; omega) | skip)) | ((first | refine .inr ((rdue_ok 0 _ _ _).mono fun r nx' ob' hp => ?_) | refine (rdue_ok 0 _ _ _).mono fun r nx' ob' hp => ?_); obtain ⟨rfl, rfl, rfl⟩ := hp; simp [aftI, mk]) | refine cc1 (rplCop_ok (rplR 1 0 0 3) (lenM _ _ _) (by simp)) @mk.eq_1 ?_ | refine cc1 (mayA_ok) @mk.eq_1 ?_ | refine cc1 (idleA_ok) @mk.eq_1 ?_ | refine cc1 (idleB_ok) @mk.eq_1 ?_ | refine cc1 (idleC_ok) @mk.eq_1 ?_ | refine cc1 (rclkA_ok) @mk.eq_1 ?_ | refine cc1 (rclkB_ok) @mk.eq_1 ?_ | refine cc1 (rclkC_ok) @mk.eq_1 ?_ | refine cc1 (stepA_ok _) @mk.eq_1 ?_ | refine cc1 (stepB_ok _) @mk.eq_1 ?_ | refine cc1 (stepC_ok _) @mk.eq_1 ?_ | (refine awp_range0 rfl ?_; refine (due1_ok _ _ 0 _ _ _ _ (by rfl) (by rfl) (by rfl) (by rfl) (by decide)).mono fun r nx' ob' hp => ?_; obtain ⟨rfl, rfl, rfl⟩ := hp; simp [mk]) | refine awp_rounds 4 ?_ | refine arounds_step fun K hK => ?_ | exact rt1 @mk.eq_1 | fail) <;> (refine au1 @mk.eq_1 ?_; (repeat intro K hK); refine wr ?_))
theorem follow_ok : Meets Tryz.prog 37 [.st (wB 1 0 0 3 2 3).row, iv 3] (.st (wB 9 1 3 3 2 3).row) := by
  refine Meets.of Tryz.func37 rfl (by kernel_rfl) rfl ?_
  simp only [Tryz.ntmps37, St.start, argT]
  refine au ?_
  repeat intro K hK
  refine wr ?_
  (refine au ?_; (repeat intro K hK); refine wr ?_)
  repeat' ((first | (refine awp_cond rfl (fun h => ?_) (fun h => ?_) <;> (first | (simp at h; done) | (simp at h) | skip) <;> (first | (exfalso; omega) | skip)) | refine cc (radv_ok) ?_ | refine cc (hold0_ok 0 0) ?_ | refine cc (rel0_ok 0 0 0 (by decide)) ?_ | exact rt | fail) <;> (refine au ?_; (repeat intro K hK); refine wr ?_))
theorem runB_ok : Meets Tryz.prog 12 [.st (wB 1 0 0 3 2 3).row, iv 3, uv 0] (.st (wB 9 1 3 3 2 3).row) := by
  refine Meets.of Tryz.func12 rfl (by kernel_rfl) rfl ?_
  simp only [Tryz.ntmps12, St.start, argT]
  refine au ?_
  repeat intro K hK
  refine wr ?_
  (refine au ?_; (repeat intro K hK); refine wr ?_)
  repeat' ((first | (refine awp_cond rfl (fun h => ?_) (fun h => ?_) <;> (first | (simp at h; done) | (simp at h) | skip) <;> (first | (exfalso; omega) | skip)) | refine cc (cloneB_ok 1 0 0 3 2 3) ?_ | refine cc (follow_ok) ?_ | exact rt | fail) <;> (refine au ?_; (repeat intro K hK); refine wr ?_))
theorem machA_ok : Meets Tryz.prog 16 [.st (rA 1).row] (.st (mk 9 1 3).row) := by
  refine Meets.of Tryz.func16 rfl (by kernel_rfl) rfl ?_
  simp only [Tryz.ntmps16, St.start, argT]
  refine au1 @segs.eq_1 ?_
  repeat intro K hK
  refine wr ?_
  (refine au1 @segs.eq_1 ?_; (repeat intro K hK); refine wr ?_)
  repeat' ((first | (refine awp_cond rfl (fun h => ?_) (fun h => ?_) <;> (first | (simp [segs] at h; done) | (simp [segs] at h) | skip) <;> (first | (exfalso; omega) | skip)) | refine cc1 (copyM_ok (mk 9 1 3) (lenM _ _ _)) @segs.eq_1 ?_ | exact rt1 @segs.eq_1 | fail) <;> (refine au1 @segs.eq_1 ?_; (repeat intro K hK); refine wr ?_))
theorem machB_ok : Meets Tryz.prog 16 [.st (wB 9 1 3 3 2 3).row] (.st (mk 9 1 3).row) := by
  refine Meets.of Tryz.func16 rfl (by kernel_rfl) rfl ?_
  simp only [Tryz.ntmps16, St.start, argT]
  refine au ?_
  repeat intro K hK
  refine wr ?_
  (refine au ?_; (repeat intro K hK); refine wr ?_)
  repeat' ((first | (refine awp_cond rfl (fun h => ?_) (fun h => ?_) <;> (first | (simp at h; done) | (simp at h) | skip) <;> (first | (exfalso; omega) | skip)) | refine cc (copyM_ok (mk 9 1 3) (lenM _ _ _)) ?_ | exact rt | fail) <;> (refine au ?_; (repeat intro K hK); refine wr ?_))
end Go.Proofs.YtpifpdjefbehmaaGreat
