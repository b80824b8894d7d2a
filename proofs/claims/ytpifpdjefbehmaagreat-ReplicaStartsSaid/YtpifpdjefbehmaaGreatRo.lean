/- Replicas, the fixed run: gate and log of a run without outputs. -/
import Derived.Test.YtpifpdjefbehmaaGreatRn
namespace Go.Proofs.YtpifpdjefbehmaaGreat
open Go.Ab Go.RowKit
set_option linter.unusedSimpArgs false
set_option maxRecDepth 100000
set_option maxHeartbeats 16000000
theorem gval0_ok (a b : Int) : Meets Tryz.prog 117 [.st [.sl 4 false [], lv a, lv b]] (.bool true) := by
  refine Meets.of Tryz.func117 rfl (by kernel_rfl) rfl ?_
  simp only [Tryz.ntmps117, St.start, argT]
  refine au ?_
  repeat intro K hK
  refine wr ?_
  (refine au ?_; (repeat intro K hK); refine wr ?_)
  repeat' ((first | (refine awp_cond rfl (fun h => ?_) (fun h => ?_) <;> (first | (simp at h; done) | (simp at h) | skip) <;> (first | (exfalso; omega) | skip)) | refine awp_rounds 1 ?_ | refine arounds_step fun K hK => ?_ | exact rt | fail) <;> (refine au ?_; (repeat intro K hK); refine wr ?_))
theorem hold0_ok (a b : Int) : Meets Tryz.prog 68 [.st [.sl 4 false [], lv a, lv b], .sl 4 false []] (.tup [.st [.sl 4 false [], lv a, lv b], .bool true]) := by
  refine Meets.of Tryz.func68 rfl (by kernel_rfl) rfl ?_
  simp only [Tryz.ntmps68, St.start, argT]
  refine au ?_
  repeat intro K hK
  refine wr ?_
  (refine au ?_; (repeat intro K hK); refine wr ?_)
  repeat' ((first | (refine awp_cond rfl (fun h => ?_) (fun h => ?_) <;> (first | (simp at h; done) | (simp at h) | skip) <;> (first | (exfalso; omega) | skip)) | refine cc (cloneO [] false 4 (.inl rfl) (by simp)) ?_ | refine cc (gval0_ok a b) ?_ | refine awp_rounds 1 ?_ | refine arounds_step fun K hK => ?_ | exact rt | fail) <;> (refine au ?_; (repeat intro K hK); refine wr ?_))
theorem rel0_ok (a b k : Int) (hka : k ≤ a) : Meets Tryz.prog 74 [.st [.sl 4 false [], lv a, lv b], lv k] (.tup [.st [.sl 4 false [], lv a, lv b], .sl 5 false []]) := by
  refine Meets.of Tryz.func74 rfl (by kernel_rfl) rfl ?_
  simp only [Tryz.ntmps74, St.start, argT]
  refine au ?_
  repeat intro K hK
  refine wr ?_
  (refine au1 @hka ?_; (repeat intro K hK); refine wr ?_)
  repeat' ((first | (refine awp_cond rfl (fun h => ?_) (fun h => ?_) <;> (first | (simp [hka] at h; done) | (simp [hka] at h) | skip) <;> (first | (exfalso; omega) | skip)) | refine cc1 (cloneO [] false 4 (.inl rfl) (by simp)) @hka ?_ | refine cc1 (gval0_ok a b) @hka ?_ | refine awp_rounds 1 ?_ | refine arounds_step fun K hK => ?_ | exact rt1 @hka | fail) <;> (refine au1 @hka ?_; (repeat intro K hK); refine wr ?_))
theorem live_ok (r : RepD) : Meets Tryz.prog 11 [.st r.row] (.bool (decide (r.role = 1) || decide (r.role = 3))) := by
  refine Meets.of Tryz.func11 rfl (by kernel_rfl) rfl ?_
  simp only [Tryz.ntmps11, St.start, argT]
  refine au ?_
  repeat intro K hK
  refine wr ?_
  (refine au ?_; (repeat intro K hK); refine wr ?_)
  repeat' ((first | (refine awp_cond rfl (fun h => ?_) (fun h => ?_) <;> (first | (simp at h; done) | (simp at h) | skip) <;> (first | (exfalso; omega) | skip)) | exact rt | fail) <;> (refine au ?_; (repeat intro K hK); refine wr ?_))
theorem busy_ok (r : RepD) : Meets Tryz.prog 69 [.st r.row] (.bool ((decide (r.role = 1) || decide (r.role = 3)) && decide (r.rec_.m.dk.state = 1))) := by
  refine Meets.of Tryz.func69 rfl (by kernel_rfl) rfl ?_
  simp only [Tryz.ntmps69, St.start, argT]
  refine au ?_
  repeat intro K hK
  refine wr ?_
  (refine au ?_; (repeat intro K hK); refine wr ?_)
  repeat' ((first | (refine awp_cond rfl (fun h => ?_) (fun h => ?_) <;> (first | (simp at h; done) | (simp at h) | skip) <;> (first | (exfalso; omega) | skip)) | refine cc (live_ok r) ?_ | exact rt | fail) <;> (refine au ?_; (repeat intro K hK); refine wr ?_))
theorem cut0_ok (s c n k : Int) : Meets Tryz.prog 70 [.st (recR s c n k).row] (.tup [.st (recR s c n k).row, .sl 4 false [], lv n]) := by
  refine Meets.of Tryz.func70 rfl (by kernel_rfl) rfl ?_
  simp only [Tryz.ntmps70, St.start, argT]
  refine au ?_
  repeat intro K hK
  refine wr ?_
  (refine af1 @mk.eq_1 ?_; (repeat intro K hK); refine wr ?_)
  repeat' ((first | (refine awp_cond rfl (fun h => ?_) (fun h => ?_) <;> (first | (simp [mk] at h; done) | (simp [mk] at h) | skip) <;> (first | (exfalso; omega) | skip)) | refine cc1 (recCop_ok (recR s c n k) (lenM _ _ _) (by simp) (by simp)) @mk.eq_1 ?_ | (refine awp_planI ([0, 1, 2, 3, 4, 5, 6, 7] : List Nat) ([[], [], [], [2], [2, 3], [0], [0, 1, 5], [0, 1, 2, 3, 4, 5, 6]] : List (List Nat)) ([(7, ([[], [], [], [2], [2, 3], [0], [0, 1, 5]], [(4, 5)])), (1, ([], []))] : List (Nat × List (List Nat) × List (Nat × Nat))) (by kernel_rfl) (by kernel_rfl) (by kernel_rfl) ?_) | exact rt1 @mk.eq_1 | fail) <;> (refine af1 @mk.eq_1 ?_; (repeat intro K hK); refine wr ?_))
end Go.Proofs.YtpifpdjefbehmaaGreat
