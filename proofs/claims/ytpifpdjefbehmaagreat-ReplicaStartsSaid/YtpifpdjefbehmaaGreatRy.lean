/- Replicas, the fixed run: the primary sends. -/
import Derived.Test.YtpifpdjefbehmaaGreatRx
namespace Go.Proofs.YtpifpdjefbehmaaGreat
open Go.Ab Go.RowKit
set_option linter.unusedSimpArgs false
set_option maxRecDepth 100000
set_option maxHeartbeats 16000000
/-- the packet of the three instructions -/
def pkA : Str := sealD 1 [68, 0, 3, 0, 0]
def pkH : Str := sealD 1 [72, 0]
theorem enc0_ok : Meets Tryz.prog 76 [.st [lv 0, lv 3, .sl 4 false []]] (.tup [.str [0, 3, 0, 0], iv 0]) := by
  refine Meets.of Tryz.func76 rfl (by kernel_rfl) rfl ?_
  simp only [Tryz.ntmps76, St.start, argT]
  refine au ?_
  repeat intro K hK
  refine wr ?_
  (refine af ?_; (repeat intro K hK); refine wr ?_)
  repeat' ((first | (refine awp_cond rfl (fun h => ?_) (fun h => ?_) <;> (first | (simp at h; done) | (simp at h) | skip) <;> (first | (exfalso; omega) | skip)) | refine cc (encLog0_ok 0 3 (by decide)) ?_ | refine cc (putu_ok 0 (by decide) (by decide)) ?_ | refine cc (putu_ok 3 (by decide) (by decide)) ?_ | refine cc (pack0_ok) ?_ | (refine awp_planI ([0, 1, 2, 3, 4, 5, 6, 7, 8, 9, 10, 11] : List Nat) ([[], [0], [0, 1], [], [3], [0, 1, 2, 3, 4], [0, 1, 2, 3, 4, 5], [], [0, 1, 2, 3, 4, 5, 7], [0, 1, 2, 3, 4, 5, 6, 7, 8], [0, 1, 2, 3, 4, 5, 6, 7, 8, 9], [0, 1, 2, 3, 4, 5, 6, 7, 8, 9, 10]] : List (List Nat)) ([(9, ([[], [0], [0, 1], [], [3], [0, 1, 2, 3, 4], [0, 1, 2, 3, 4, 5], [], [0, 1, 2, 3, 4, 5, 7]], [(4, 2)])), (1, ([], [])), (1, ([], [])), (1, ([], []))] : List (Nat × List (List Nat) × List (Nat × Nat))) (by kernel_rfl) (by kernel_rfl) (by kernel_rfl) ?_) | exact rt | fail) <;> (refine af ?_; (repeat intro K hK); refine wr ?_))
theorem spk0_ok : Meets Tryz.prog 38 [.st [lv 1, lv 3, lv 0, .sl 3 false [[lv 0, lv 3, .sl 4 false []]]]] (.new 9 1 [[.str pkA]]) := by
  refine Meets.of Tryz.func38 rfl (by kernel_rfl) rfl ?_
  simp only [Tryz.ntmps38, St.start, argT]
  refine au ?_
  repeat intro K hK
  refine wr ?_
  (refine au2 @pkA.eq_1 @maxLen.eq_1 ?_; (repeat intro K hK); refine wr ?_)
  repeat' ((first | (refine awp_cond rfl (fun h => ?_) (fun h => ?_) <;> (first | (simp [pkA, maxLen] at h; done) | (simp [pkA, maxLen] at h) | skip) <;> (first | (exfalso; omega) | skip)) | refine cc2 (sending1_ok) @pkA.eq_1 @maxLen.eq_1 ?_ | refine cc2 (enc0_ok) @pkA.eq_1 @maxLen.eq_1 ?_ | refine cc2 (seal_ok 1 [68, 0, 3, 0, 0] (by decide) (by decide) (by decide)) @pkA.eq_1 @maxLen.eq_1 ?_ | refine awp_rounds 2 ?_ | refine arounds_step fun K hK => ?_ | exact rt2 @pkA.eq_1 @maxLen.eq_1 | fail) <;> (refine au2 @pkA.eq_1 @maxLen.eq_1 ?_; (repeat intro K hK); refine wr ?_))
theorem hb0_ok : Meets Tryz.prog 40 [lv 1, lv 0] (.str pkH) := by
  refine Meets.of Tryz.func40 rfl (by kernel_rfl) rfl ?_
  simp only [Tryz.ntmps40, St.start, argT]
  refine au ?_
  repeat intro K hK
  refine wr ?_
  (refine au1 @pkH.eq_1 ?_; (repeat intro K hK); refine wr ?_)
  repeat' ((first | (refine awp_cond rfl (fun h => ?_) (fun h => ?_) <;> (first | (simp [pkH] at h; done) | (simp [pkH] at h) | skip) <;> (first | (exfalso; omega) | skip)) | refine cc1 (putu_ok 0 (by decide) (by decide)) @pkH.eq_1 ?_ | refine cc1 (seal_ok 1 [72, 0] (by decide) (by decide) (by decide)) @pkH.eq_1 ?_ | exact rt1 @pkH.eq_1 | fail) <;> (refine au1 @pkH.eq_1 ?_; (repeat intro K hK); refine wr ?_))
theorem cloneA1_ok (b : Int) : Meets Tryz.prog 35 [.st (rA b).row] (.st (rA b).row) := by
  refine Meets.of Tryz.func35 rfl (by kernel_rfl) rfl ?_
  simp only [Tryz.ntmps35, St.start, argT]
  refine au1 @segs.eq_1 ?_
  repeat intro K hK
  refine wr ?_
  (refine af1 @segs.eq_1 ?_; (repeat intro K hK); refine wr ?_)
  repeat' ((first | (refine awp_cond rfl (fun h => ?_) (fun h => ?_) <;> (first | (simp [segs] at h; done) | (simp [segs] at h) | skip) <;> (first | (exfalso; omega) | skip)) | refine cc1 (copyM_ok (mk 9 1 3) (lenM _ _ _)) @segs.eq_1 ?_ | refine cc1 (copyM_ok zMch (by decide)) @segs.eq_1 ?_ | refine cc1 (cloneE [] false 4 (.inl rfl) (by simp)) @segs.eq_1 ?_ | refine cc1 (cloneV [] false 3 (.inl rfl) (by simp)) @segs.eq_1 ?_ | refine cc1 (cloneO [] false 4 (.inl rfl) (by simp)) @segs.eq_1 ?_ | refine cc1 (cloneS [[lv 0, lv 3, .sl 4 false []]] false 3 (.inl rfl) (by simp)) @segs.eq_1 ?_ | refine cc1 (cloneY [] false 4 (.inl rfl) (by simp)) @segs.eq_1 ?_ | refine cc1 (copyS_ok 0 3) @segs.eq_1 ?_ | refine awp_rounds 2 ?_ | refine arounds_step fun K hK => ?_ | (refine awp_planI (rid := 11) ([0, 1, 2, 3, 4, 5, 6, 7] : List Nat) ([[], [0], [0, 1], [], [], [4], [0, 1, 2, 3, 4, 5], [0, 1, 2, 3, 4, 5, 6]] : List (List Nat)) ([(6, ([[], [0], [0, 1], [], [], [4]], [(2, 5)])), (1, ([], [])), (1, ([], []))] : List (Nat × List (List Nat) × List (Nat × Nat))) (by kernel_rfl) (by kernel_rfl) (by kernel_rfl) ?_) | (refine awp_planI (rid := 17) ([0, 1, 2, 3, 4, 5, 6, 7, 8, 9] : List Nat) ([[], [0], [0, 1], [], [], [4], [4, 5], [0, 1, 2, 3, 4, 5, 6], [0, 1, 2, 3, 4, 5, 6, 7], [0, 1, 2, 3, 4, 5, 6, 7, 8]] : List (List Nat)) ([(7, ([[], [0], [0, 1], [], [], [4], [4, 5]], [(2, 6)])), (1, ([], [])), (1, ([], [])), (1, ([], []))] : List (Nat × List (List Nat) × List (Nat × Nat))) (by kernel_rfl) (by kernel_rfl) (by kernel_rfl) ?_) | exact rt1 @segs.eq_1 | fail) <;> (refine af1 @segs.eq_1 ?_; (repeat intro K hK); refine wr ?_))
theorem pks_ok : Meets Tryz.prog 13 [.st (rA 0).row] (.tup [.st (rA 1).row, .sl 1 false [[.str pkA], [.str pkH]]]) := by
  refine Meets.of Tryz.func13 rfl (by kernel_rfl) rfl ?_
  simp only [Tryz.ntmps13, St.start, argT]
  refine au1 @segs.eq_1 ?_
  repeat intro K hK
  refine wr ?_
  (refine af2 @segs.eq_1 @maxLen.eq_1 ?_; (repeat intro K hK); refine wr ?_)
  repeat' ((first | (refine awp_cond rfl (fun h => ?_) (fun h => ?_) <;> (first | (simp [segs, maxLen] at h; done) | (simp [segs, maxLen] at h) | skip) <;> (first | (exfalso; omega) | skip)) | refine cc2 (cloneA1_ok 0) @segs.eq_1 @maxLen.eq_1 ?_ | refine cc2 (spk0_ok) @segs.eq_1 @maxLen.eq_1 ?_ | refine cc2 (hb0_ok) @segs.eq_1 @maxLen.eq_1 ?_ | (refine awp_planI ([0, 1, 2, 3, 4, 5, 6, 7, 8, 9] : List Nat) ([[], [], [], [2], [], [2, 3, 4], [2, 3, 4, 5], [1, 2, 3, 4, 5, 6], [0, 1, 2, 3, 4, 5, 6, 7], [0, 1, 2, 3, 4, 5, 6, 7, 8]] : List (List Nat)) ([(8, ([[], [], [], [2], [], [2, 3, 4], [2, 3, 4, 5], [1, 2, 3, 4, 5, 6]], [(0, 5), (0, 6), (0, 7)])), (1, ([], [])), (1, ([], []))] : List (Nat × List (List Nat) × List (Nat × Nat))) (by kernel_rfl) (by kernel_rfl) (by kernel_rfl) ?_) | exact rt2 @segs.eq_1 @maxLen.eq_1 | fail) <;> (refine af2 @segs.eq_1 @maxLen.eq_1 ?_; (repeat intro K hK); refine wr ?_))
end Go.Proofs.YtpifpdjefbehmaaGreat
