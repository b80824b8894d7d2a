/- Replicas, the fixed run: the primary executes three instructions. -/
import Derived.Test.YtpifpdjefbehmaaGreatRp
namespace Go.Proofs.YtpifpdjefbehmaaGreat
open Go.Ab Go.RowKit
set_option linter.unusedSimpArgs false
set_option maxRecDepth 100000
set_option maxHeartbeats 16000000
/-- the primary before it runs, its guest here -/
abbrev wA (s c n k : Int) : RepD := repQ 0 1 1 (mk s c n) k zMch 0 0 0 0 0 1 0 0 0 0 2 0 0 0 0 0 []
/-- the primary behind three instructions -/
abbrev rA (b : Int) : RepD := repQ 0 1 1 (mk 9 1 3) 3 zMch 0 0 0 0 0 1 3 0 0 0 2 0 0 b 0 0 [⟨0, 3, []⟩]
theorem busyA_ok : Meets Tryz.prog 69 [.st (wA 9 1 3 3).row] (.bool false) := by
  have h := busy_ok (wA 9 1 3 3)
  rwa [show ((decide ((wA 9 1 3 3).role = 1) || decide ((wA 9 1 3 3).role = 3)) && decide ((wA 9 1 3 3).rec_.m.dk.state = 1)) = false by decide] at h
theorem runLive0_ok : Meets Tryz.prog 36 [.st (wA 1 0 0 0).row, iv 3, uv 0] (.st (rA 0).row) := by
  refine Meets.of Tryz.func36 rfl (by kernel_rfl) rfl ?_
  simp only [Tryz.ntmps36, St.start, argT]
  refine au ?_
  repeat intro K hK
  refine wr ?_
  (refine af1 @segs.eq_1 ?_; (repeat intro K hK); refine wr ?_)
  repeat' ((first | (refine awp_cond rfl (fun h => ?_) (fun h => ?_) <;> (first | (simp [segs] at h; done) | (simp [segs] at h) | skip) <;> (first | (exfalso; omega) | skip)) | refine cc1 (adv_ok) @segs.eq_1 ?_ | refine cc1 (hold0_ok 0 0) @segs.eq_1 ?_ | refine cc1 (busyA_ok) @segs.eq_1 ?_ | refine cc1 (cut0_ok 9 1 3 3) @segs.eq_1 ?_ | refine cc1 (concat0_ok) @segs.eq_1 ?_ | refine cc1 (push0_ok) @segs.eq_1 ?_ | refine awp_rounds 1 ?_ | refine arounds_step fun K hK => ?_ | (refine awp_planI ([0, 1, 2, 3, 4, 5] : List Nat) ([[], [0], [], [2], [0, 1, 2, 3], [0, 1, 2, 3, 4]] : List (List Nat)) ([(4, ([[], [0], [], [2]], [(1, 3)])), (1, ([], [])), (1, ([], []))] : List (Nat × List (List Nat) × List (Nat × Nat))) (by kernel_rfl) (by kernel_rfl) (by kernel_rfl) ?_) | exact rt1 @segs.eq_1 | fail) <;> (refine af1 @segs.eq_1 ?_; (repeat intro K hK); refine wr ?_))
theorem cloneA_ok : Meets Tryz.prog 35 [.st (wA 1 0 0 0).row] (.st (wA 1 0 0 0).row) :=
  clone0_ok 0 1 1 (mk 1 0 0) 0 zMch 0 0 0 0 0 1 0 0 0 0 2 0 0 0 0 0 (lenM _ _ _) (by decide)
theorem runA_ok : Meets Tryz.prog 12 [.st (wA 1 0 0 0).row, iv 3, uv 0] (.st (rA 0).row) := by
  refine Meets.of Tryz.func12 rfl (by kernel_rfl) rfl ?_
  simp only [Tryz.ntmps12, St.start, argT]
  refine au ?_
  repeat intro K hK
  refine wr ?_
  (refine au1 @segs.eq_1 ?_; (repeat intro K hK); refine wr ?_)
  repeat' ((first | (refine awp_cond rfl (fun h => ?_) (fun h => ?_) <;> (first | (simp [segs] at h; done) | (simp [segs] at h) | skip) <;> (first | (exfalso; omega) | skip)) | refine cc1 (cloneA_ok) @segs.eq_1 ?_ | refine cc1 (runLive0_ok) @segs.eq_1 ?_ | exact rt1 @segs.eq_1 | fail) <;> (refine au1 @segs.eq_1 ?_; (repeat intro K hK); refine wr ?_))
end Go.Proofs.YtpifpdjefbehmaaGreat
