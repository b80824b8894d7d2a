/- Replicas, the fixed run: one byte is compressed. -/
import Derived.Test.YtpifpdjefbehmaaGreatRq
import Derived.Test.YtpifpdjefbehmaaGreatAd
namespace Go.Proofs.YtpifpdjefbehmaaGreat
open Go.Ab Go.RowKit
set_option linter.unusedSimpArgs false
set_option maxRecDepth 100000
set_option maxHeartbeats 16000000
@[simp] theorem byteV_iff (n : Int) : isByteV [.int .u8 n] ↔ (0 ≤ n ∧ n < 256) := by
  constructor
  · rintro ⟨b, hb⟩
    simp at hb
    have := b.toNat_lt
    omega
  · intro h
    exact ⟨UInt8.ofNat n.toNat, by simp; omega⟩
/-- the window of one byte -/
abbrev winO (c : V) : Ob := ⟨285, 3, true, false, [[.str [0], c, .int .i64 0]]⟩
theorem group0_ok {nx : Nat} {ob : List (Nat × Option Ob)} (id : Nat) (c : V) (hob : lookO ob id = some (winO c)) :
    InlC Tryz.prog 248 [.ptr id 3 0 0, iv 0] nx ob fun r nx' ob' => r = .tup [.str [], .bool false] ∧ nx' = nx ∧ ob' = ob := by
  refine InlC.of Tryz.func248 rfl (by kernel_rfl) rfl ?_
  simp only [Tryz.ntmps248, St.startI, argT]
  refine au1 @hob ?_
  repeat intro K hK
  refine wr ?_
  (refine au1 @hob ?_; (repeat intro K hK); refine wr ?_)
  repeat' ((first | (refine awp_cond rfl (fun h => ?_) (fun h => ?_) <;> (first | (simp [hob] at h; done) | (simp [hob] at h) | skip) <;> (first | (exfalso; omega) | skip)) | exact rt1 @hob | fail) <;> (refine au1 @hob ?_; (repeat intro K hK); refine wr ?_))
theorem match0_ok {nx : Nat} {ob : List (Nat × Option Ob)} (id : Nat) (c : V) (hob : lookO ob id = some (winO c)) :
    InlC Tryz.prog 180 [.ptr id 3 0 0, iv 0] nx ob fun r nx' ob' => r = .tup [iv 0, iv 0] ∧ nx' = nx ∧ ob' = ob := by
  refine InlC.of Tryz.func180 rfl (by kernel_rfl) rfl ?_
  simp only [Tryz.ntmps180, St.startI, argT]
  refine au1 @hob ?_
  repeat intro K hK
  refine wr ?_
  (refine af1 @hob ?_; (repeat intro K hK); refine wr ?_)
  repeat' ((first | (refine awp_cond rfl (fun h => ?_) (fun h => ?_) <;> (first | (simp [hob] at h; done) | (simp [hob] at h) | skip) <;> (first | (exfalso; omega) | skip)) | ((first | refine .inr ((group0_ok id c hob).mono fun r nx' ob' hp => ?_) | refine (group0_ok id c hob).mono fun r nx' ob' hp => ?_); obtain ⟨rfl, rfl, rfl⟩ := hp; simp [aftI, hob]) | (refine awp_planI ([0, 1, 2, 3, 4, 5, 6, 7, 8, 9, 10, 11, 12, 13, 14, 15, 16, 17, 18, 19, 20, 21, 22, 23, 24] : List Nat) ([[], [], [0, 1], [0, 1, 2], [0, 1, 2, 3], [0, 1, 2, 3, 4], [0, 1, 2, 3, 4, 5], [0, 1, 2, 3, 4, 5, 6], [0, 1, 2, 3], [0, 1, 2, 3], [0, 1, 2, 3, 8, 9], [0, 1, 2, 3, 4, 5, 6, 7, 8, 9, 10], [0, 1, 2, 3], [0, 1, 2, 3, 12], [0, 1, 2, 3, 12, 13], [0, 1, 2, 3, 12, 13, 14], [0, 1, 2, 3], [0, 1, 2, 3], [0, 1, 2, 3, 16, 17], [0, 1, 2, 3, 16, 17, 18], [0, 1, 2, 3], [0, 1, 2, 3, 16, 17, 18, 19, 20], [0, 1, 2, 3, 12, 13, 14, 15, 16, 17, 18, 19, 20, 21], [0, 1, 2, 3, 4, 5, 6, 7, 8, 9, 10, 11, 12, 13, 14, 15, 16, 17, 18, 19, 20, 21, 22], [0, 1, 2, 3, 4, 5, 6, 7, 8, 9, 10, 11, 12, 13, 14, 15, 16, 17, 18, 19, 20, 21, 22, 23]] : List (List Nat)) ([(2, ([[], []], [])), (1, ([], [])), (1, ([], [])), (19, ([[], [0], [0, 1], [0, 1, 2], [], [], [4, 5], [0, 1, 2, 3, 4, 5, 6], [], [8], [8, 9], [8, 9, 10], [], [], [12, 13], [12, 13, 14], [], [12, 13, 14, 15, 16], [8, 9, 10, 11, 12, 13, 14, 15, 16, 17]], [])), (1, ([], [])), (1, ([], []))] : List (Nat × List (List Nat) × List (Nat × Nat))) (by kernel_rfl) (by kernel_rfl) (by kernel_rfl) ?_) | exact rt1 @hob | fail) <;> (refine af1 @hob ?_; (repeat intro K hK); refine wr ?_))
theorem move0_ok {nx : Nat} {ob : List (Nat × Option Ob)} (id : Nat) (c : V) (hob : lookO ob id = some (winO c)) :
    InlC Tryz.prog 179 [.ptr id 3 0 0, iv 0] nx ob fun r nx' ob' => r = .tup [] ∧ nx' = nx ∧ ob' = ob := by
  refine InlC.of Tryz.func179 rfl (by kernel_rfl) rfl ?_
  simp only [Tryz.ntmps179, St.startI, argT]
  (first | (refine af1 @hob ?_; (repeat intro K hK); refine wr ?_) | exact afd1 @hob)
  repeat' ((first | (refine awp_cond rfl (fun h => ?_) (fun h => ?_) <;> (first | (simp [hob] at h; done) | (simp [hob] at h) | skip) <;> (first | (exfalso; omega) | skip)) | refine awp_rounds 1 ?_ | refine arounds_step fun K hK => ?_ | (refine awp_planI ([0, 1, 2, 3, 4, 5, 6, 7, 8, 9, 10, 11, 12, 13, 14, 15, 16, 17, 18, 19, 20, 21, 22, 23, 24] : List Nat) ([[], [], [0, 1], [0, 1, 2], [0, 1, 2, 3], [0, 1, 2, 3, 4], [0, 1, 2, 3, 4, 5], [0, 1, 2, 3, 4, 5, 6], [0, 1, 2, 3], [0, 1, 2, 3], [0, 1, 2, 3, 8, 9], [0, 1, 2, 3, 4, 5, 6, 7, 8, 9, 10], [0, 1, 2, 3], [0, 1, 2, 3, 12], [0, 1, 2, 3, 12, 13], [0, 1, 2, 3, 12, 13, 14], [0, 1, 2, 3], [0, 1, 2, 3], [0, 1, 2, 3, 16, 17], [0, 1, 2, 3, 16, 17, 18], [0, 1, 2, 3], [0, 1, 2, 3, 16, 17, 18, 19, 20], [0, 1, 2, 3, 12, 13, 14, 15, 16, 17, 18, 19, 20, 21], [0, 1, 2, 3, 4, 5, 6, 7, 8, 9, 10, 11, 12, 13, 14, 15, 16, 17, 18, 19, 20, 21, 22], [0, 1, 2, 3, 4, 5, 6, 7, 8, 9, 10, 11, 12, 13, 14, 15, 16, 17, 18, 19, 20, 21, 22, 23]] : List (List Nat)) ([(2, ([[], []], [])), (1, ([], [])), (1, ([], [])), (19, ([[], [0], [0, 1], [0, 1, 2], [], [], [4, 5], [0, 1, 2, 3, 4, 5, 6], [], [8], [8, 9], [8, 9, 10], [], [], [12, 13], [12, 13, 14], [], [12, 13, 14, 15, 16], [8, 9, 10, 11, 12, 13, 14, 15, 16, 17]], [])), (1, ([], [])), (1, ([], []))] : List (Nat × List (List Nat) × List (Nat × Nat))) (by kernel_rfl) (by kernel_rfl) (by kernel_rfl) ?_) | exact rt1 @hob | fail) <;> (first | (refine af1 @hob ?_; (repeat intro K hK); refine wr ?_) | exact afd1 @hob))
theorem lits0_ok : Meets Tryz.prog 181 [.sl 0 true [], .str [0]] (.new 5 1 [[.int .u8 0], [.int .u8 0]]) := by
  refine Meets.of Tryz.func181 rfl (by kernel_rfl) rfl ?_
  simp only [Tryz.ntmps181, St.start, argT]
  refine au ?_
  repeat intro K hK
  refine wr ?_
  (refine au2 @maxLen.eq_1 @bytesX.eq_1 ?_; (repeat intro K hK); refine wr ?_)
  repeat' ((first | (refine awp_cond rfl (fun h => ?_) (fun h => ?_) <;> (first | (simp [maxLen, bytesX] at h; done) | (simp [maxLen, bytesX] at h) | skip) <;> (first | (exfalso; omega) | skip)) | refine awp_rounds 2 ?_ | refine arounds_step fun K hK => ?_ | exact rt2 @maxLen.eq_1 @bytesX.eq_1 | fail) <;> (refine au2 @maxLen.eq_1 @bytesX.eq_1 ?_; (repeat intro K hK); refine wr ?_))
theorem pack0_ok : Meets Tryz.prog 127 [.str [0]] (.str [0, 0]) := by
  refine Meets.of Tryz.func127 rfl (by kernel_rfl) rfl ?_
  simp only [Tryz.ntmps127, St.start, argT]
  refine au ?_
  repeat intro K hK
  refine wr ?_
  (refine au ?_; (repeat intro K hK); refine wr ?_)
  repeat' ((first | (refine awp_cond rfl (fun h => ?_) (fun h => ?_) <;> (first | (simp at h; done) | (simp at h) | skip) <;> (first | (exfalso; omega) | skip)) | ((first | refine .inr ((move0_ok 1 (.omap 0) (by simp [lookO])).mono fun r nx' ob' hp => ?_) | refine (move0_ok 1 (.omap 0) (by simp [lookO])).mono fun r nx' ob' hp => ?_); obtain ⟨rfl, rfl, rfl⟩ := hp; simp [aftI]) | ((first | refine .inr ((match0_ok 1 (.omap 0) (by simp [lookO])).mono fun r nx' ob' hp => ?_) | refine (match0_ok 1 (.omap 0) (by simp [lookO])).mono fun r nx' ob' hp => ?_); obtain ⟨rfl, rfl, rfl⟩ := hp; simp [aftI]) | refine cc (lits0_ok) ?_ | refine awp_rounds 2 ?_ | refine arounds_step fun K hK => ?_ | exact rt | fail) <;> (refine au ?_; (repeat intro K hK); refine wr ?_))
end Go.Proofs.YtpifpdjefbehmaaGreat
