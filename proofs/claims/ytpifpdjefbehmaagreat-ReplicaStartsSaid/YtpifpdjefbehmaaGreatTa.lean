/- Replicas, the fixed run: the packet is decoded and delivered. -/
import Derived.Test.YtpifpdjefbehmaaGreatRz
namespace Go.Proofs.YtpifpdjefbehmaaGreat
open Go.Ab Go.RowKit
set_option linter.unusedSimpArgs false
set_option maxRecDepth 100000
set_option maxHeartbeats 16000000
/-- an early list of the call's own -/
abbrev earO (xs : List (List V)) : Ob := ⟨114, 4, false, false, xs⟩
theorem unpack0_ok : Meets Tryz.prog 185 [.str [0, 0], iv 65536] (.tup [.str [0], iv 0]) := by
  refine Meets.of Tryz.func185 rfl (by kernel_rfl) rfl ?_
  simp only [Tryz.ntmps185, St.start, argT]
  refine au ?_
  repeat intro K hK
  refine wr ?_
  refine awp_nilOwn 6 5 1 (by decide) rfl ?_
  (refine af2 @maxLen.eq_1 @bytesX.eq_1 ?_; (repeat intro K hK); refine wr ?_)
  repeat' ((first | (refine awp_cond rfl (fun h => ?_) (fun h => ?_) <;> (first | (simp [maxLen, bytesX] at h; done) | (simp [maxLen, bytesX] at h) | skip) <;> (first | (exfalso; omega) | skip)) | refine awp_rounds 2 ?_ | refine arounds_step fun K hK => ?_ | (refine awp_planI ([0, 1, 2, 3, 4, 5, 6, 7] : List Nat) ([[], [0], [], [], [2, 3], [2, 3, 4], [0, 1], [0, 1, 2, 3, 4, 5, 6]] : List (List Nat)) ([(7, ([[], [0], [], [], [2, 3], [2, 3, 4], [0, 1]], [])), (1, ([], []))] : List (Nat × List (List Nat) × List (Nat × Nat))) (by kernel_rfl) (by kernel_rfl) (by kernel_rfl) ?_) | exact rt2 @maxLen.eq_1 @bytesX.eq_1 | fail) <;> (refine af2 @maxLen.eq_1 @bytesX.eq_1 ?_; (repeat intro K hK); refine wr ?_))
theorem dlog0_ok (k : Int) : Meets Tryz.prog 186 [.str [0], lv k] (.tup [.sl 4 false [], iv 0]) := by
  refine Meets.of Tryz.func186 rfl (by kernel_rfl) rfl ?_
  simp only [Tryz.ntmps186, St.start, argT]
  refine au ?_
  repeat intro K hK
  refine wr ?_
  (refine au ?_; (repeat intro K hK); refine wr ?_)
  repeat' ((first | (refine awp_cond rfl (fun h => ?_) (fun h => ?_) <;> (first | (simp at h; done) | (simp at h) | skip) <;> (first | (exfalso; omega) | skip)) | ((first | refine .inr ((num0_ok 0 [] (by simp) (by simp [lookO])).mono fun r nx' ob' hp => ?_) | refine (num0_ok 0 [] (by simp) (by simp [lookO])).mono fun r nx' ob' hp => ?_); obtain ⟨rfl, rfl, rfl⟩ := hp; simp [aftI]) | refine cc (elog0_ok k) ?_ | refine awp_rounds 1 ?_ | refine arounds_step fun K hK => ?_ | exact rt | fail) <;> (refine au ?_; (repeat intro K hK); refine wr ?_))
theorem dec0_ok : Meets Tryz.prog 134 [.str [0, 3, 0, 0]] (.tup [.st [lv 0, lv 3, .sl 4 false []], iv 0]) := by
  refine Meets.of Tryz.func134 rfl (by kernel_rfl) rfl ?_
  simp only [Tryz.ntmps134, St.start, argT]
  refine au ?_
  repeat intro K hK
  refine wr ?_
  (refine au ?_; (repeat intro K hK); refine wr ?_)
  repeat' ((first | (refine awp_cond rfl (fun h => ?_) (fun h => ?_) <;> (first | (simp at h; done) | (simp at h) | skip) <;> (first | (exfalso; omega) | skip)) | refine cc (uvar0_ok [3, 0, 0] (by decide)) ?_ | refine cc (uvar3_ok [0, 0] (by decide)) ?_ | refine cc (unpack0_ok) ?_ | refine cc (dlog0_ok 0) ?_ | refine cc (beyond0_ok 3) ?_ | exact rt | fail) <;> (refine au ?_; (repeat intro K hK); refine wr ?_))
theorem copyRcv0_ok (a b : Int) : Meets Tryz.prog 133 [.st [lv a, lv b, .sl 4 false []]] (.st [lv a, lv b, .new 114 4 []]) := by
  refine Meets.of Tryz.func133 rfl (by kernel_rfl) rfl ?_
  simp only [Tryz.ntmps133, St.start, argT]
  refine aum1 @maxLen.eq_1 ?_
  repeat intro K hK
  refine wr ?_
  (refine af1 @maxLen.eq_1 ?_; (repeat intro K hK); refine wr ?_)
  repeat' ((first | (refine awp_cond rfl (fun h => ?_) (fun h => ?_) <;> (first | (simp [maxLen] at h; done) | (simp [maxLen] at h) | skip) <;> (first | (exfalso; omega) | skip)) | refine awp_rounds 1 ?_ | refine arounds_step fun K hK => ?_ | (refine awp_planI ([0, 1, 2, 3, 4, 5, 6, 7, 8, 9] : List Nat) ([[], [], [1], [], [3], [3, 4], [1, 2, 3, 4, 5], [1, 2, 3, 4, 5, 6], [0, 1, 2, 3, 4, 5, 6, 7], [0, 1, 2, 3, 4, 5, 6, 7, 8]] : List (List Nat)) ([(8, ([[], [], [1], [], [3], [3, 4], [1, 2, 3, 4, 5], [1, 2, 3, 4, 5, 6]], [(2, 5)])), (1, ([], [])), (1, ([], []))] : List (Nat × List (List Nat) × List (Nat × Nat))) (by kernel_rfl) (by kernel_rfl) (by kernel_rfl) ?_) | exact rt1 @maxLen.eq_1 | fail) <;> (refine af1 @maxLen.eq_1 ?_; (repeat intro K hK); refine wr ?_))
theorem rcving0_ok : Meets Tryz.prog 78 [.st [lv 1, lv 0, .sl 4 false []]] (.bool true) := by
  refine Meets.of Tryz.func78 rfl (by kernel_rfl) rfl ?_
  simp only [Tryz.ntmps78, St.start, argT]
  refine au ?_
  repeat intro K hK
  refine wr ?_
  (refine au ?_; (repeat intro K hK); refine wr ?_)
  repeat' ((first | (refine awp_cond rfl (fun h => ?_) (fun h => ?_) <;> (first | (simp at h; done) | (simp at h) | skip) <;> (first | (exfalso; omega) | skip)) | refine awp_rounds 1 ?_ | refine arounds_step fun K hK => ?_ | exact rt | fail) <;> (refine au ?_; (repeat intro K hK); refine wr ?_))
theorem find0_ok (k : Int) (f : V) (hf : okGs [f]) : Meets Tryz.prog 135 [.sl 4 false [], lv k, f] (.tup [iv 0, .bool false]) := by
  refine Meets.of Tryz.func135 rfl (by kernel_rfl) rfl ?_
  simp only [Tryz.ntmps135, St.start, argT]
  refine au ?_
  repeat intro K hK
  refine wr ?_
  (refine au ?_; (repeat intro K hK); refine wr ?_)
  repeat' ((first | (refine awp_cond rfl (fun h => ?_) (fun h => ?_) <;> (first | (simp at h; done) | (simp at h) | skip) <;> (first | (exfalso; omega) | skip)) | refine awp_rounds 1 ?_ | refine arounds_step fun K hK => ?_ | exact rt | fail) <;> (refine au ?_; (repeat intro K hK); refine wr ?_))
theorem ins0_ok {nx : Nat} {ob : List (Nat × Option Ob)} (i k : Nat) (y : List V) (hi : lookO ob i = some (earO [])) (hk : lookO ob k = some (earO [y])) (hne : k ≠ i) :
    InlC Tryz.prog 138 [.own i, iv 0, .own k] nx ob fun r nx' ob' => r = .own nx ∧ nx' = nx + 1 ∧ ob' = (nx, some (earO [y])) :: (i, none) :: ob := by
  refine InlC.of Tryz.func138 rfl (by kernel_rfl) rfl ?_
  simp only [Tryz.ntmps138, St.startI, argT]
  refine au2 @hi @hk ?_
  repeat intro K hK
  refine wr ?_
  (refine af6 @hi @hk @hne @maxLen.eq_1 @prtV.eq_1 @prtP.eq_1 ?_; (repeat intro K hK); refine wr ?_)
  repeat' ((first | (refine awp_cond rfl (fun h => ?_) (fun h => ?_) <;> (first | (simp [hi, hk, hne, maxLen, prtV, prtP] at h; done) | (simp [hi, hk, hne, maxLen, prtV, prtP] at h) | skip) <;> (first | (exfalso; omega) | skip)) | (refine awp_planI (rid := 11) ([0, 1, 2, 3, 4, 5, 6, 7, 8] : List Nat) ([[], [], [], [1, 2], [0, 1, 2, 3], [], [], [5, 6], [0, 1, 2, 3, 4, 5, 6, 7]] : List (List Nat)) ([(8, ([[], [], [], [1, 2], [0, 1, 2, 3], [], [], [5, 6]], [])), (1, ([], []))] : List (Nat × List (List Nat) × List (Nat × Nat))) (by kernel_rfl) (by kernel_rfl) (by kernel_rfl) ?_) | (refine awp_planI (rid := 15) ([0, 1, 2, 3, 4, 5, 6, 7, 8] : List Nat) ([[], [], [], [1, 2], [0, 1, 2, 3], [], [], [5, 6], [0, 1, 2, 3, 4, 5, 6, 7]] : List (List Nat)) ([(8, ([[], [], [], [1, 2], [0, 1, 2, 3], [], [], [5, 6]], [])), (1, ([], []))] : List (Nat × List (List Nat) × List (Nat × Nat))) (by kernel_rfl) (by kernel_rfl) (by kernel_rfl) ?_) | exact rt6 @hi @hk @hne @maxLen.eq_1 @prtV.eq_1 @prtP.eq_1 | fail) <;> (refine af6 @hi @hk @hne @maxLen.eq_1 @prtV.eq_1 @prtP.eq_1 ?_; (repeat intro K hK); refine wr ?_))
theorem del0_ok {nx : Nat} {ob : List (Nat × Option Ob)} (i : Nat) (y : List V) (hi : lookO ob i = some (earO [y])) (hy : y.length = 4) :
    InlC Tryz.prog 139 [.own i, iv 0, iv 1] nx ob fun r nx' ob' => r = .own nx ∧ nx' = nx + 1 ∧ ob' = (nx, some (earO [])) :: (i, none) :: (i, some (earO [[lv 0, lv 0, lv 0, .sl 0 true []]])) :: (i, some (earO [y])) :: ob := by
  refine InlC.of Tryz.func139 rfl (by kernel_rfl) rfl ?_
  simp only [Tryz.ntmps139, St.startI, argT]
  refine au1 @hi ?_
  repeat intro K hK
  refine wr ?_
  (refine af3 @hi @hy @maxLen.eq_1 ?_; (repeat intro K hK); refine wr ?_)
  repeat' ((first | (refine awp_cond rfl (fun h => ?_) (fun h => ?_) <;> (first | (simp [hi, hy, maxLen] at h; done) | (simp [hi, hy, maxLen] at h) | skip) <;> (first | (exfalso; omega) | skip)) | (refine awp_planI ([0, 1, 2, 3, 4, 5, 6, 7] : List Nat) ([[], [], [0, 1], [], [], [3, 4], [0, 1, 2, 3, 4, 5], [0, 1, 2, 3, 4, 5, 6]] : List (List Nat)) ([(6, ([[], [], [0, 1], [], [], [3, 4]], [])), (1, ([], [])), (1, ([], []))] : List (Nat × List (List Nat) × List (Nat × Nat))) (by kernel_rfl) (by kernel_rfl) (by kernel_rfl) ?_) | exact rt3 @hi @hy @maxLen.eq_1 | fail) <;> (refine af3 @hi @hy @maxLen.eq_1 ?_; (repeat intro K hK); refine wr ?_))
  refine awp_partT (sz := 4) (k := 0) 6 i (by simp [lkT]) (by simp [lookO]; rfl) rfl rfl (Nat.zero_le _) ?_
  refine awp_ret ?_
  simp
theorem take0_ok : Meets Tryz.prog 83 [.st [lv 1, lv 0, .sl 4 false []], .str pkA] (.tup [.st [lv 2, lv 3, .sl 4 false []], .sl 3 false [[lv 0, lv 3, .sl 4 false []]], .bool true]) := by
  refine Meets.of Tryz.func83 rfl (by kernel_rfl) rfl ?_
  simp only [Tryz.ntmps83, St.start, argT]
  refine au ?_
  repeat intro K hK
  refine wr ?_
  (refine af1 @maxLen.eq_1 ?_; (repeat intro K hK); refine wr ?_)
  repeat' ((first | (refine awp_cond rfl (fun h => ?_) (fun h => ?_) <;> (first | (simp [maxLen] at h; done) | (simp [maxLen] at h) | skip) <;> (first | (exfalso; omega) | skip)) | ((first | refine .inl ⟨1, _, find0_ok 1 (.fn 136) (by simp [okGs, okG]), ?_⟩ | refine ⟨1, _, find0_ok 1 (.fn 136) (by simp [okGs, okG]), ?_⟩); simp [aftC, aftE, noX, noXc, noX1, maxLen]) | ((first | refine .inr ((ins0_ok 4 17 [lv 1, lv 0, lv 3, .sl 4 false []] (by simp [lookO]) (by simp [lookO]) (by decide)).mono fun r nx' ob' hp => ?_) | refine (ins0_ok 4 17 [lv 1, lv 0, lv 3, .sl 4 false []] (by simp [lookO]) (by simp [lookO]) (by decide)).mono fun r nx' ob' hp => ?_); obtain ⟨rfl, rfl, rfl⟩ := hp; simp [aftI, maxLen]) | ((first | refine .inr ((del0_ok 18 [lv 1, lv 0, lv 3, .sl 4 false []] (by simp [lookO]) rfl).mono fun r nx' ob' hp => ?_) | refine (del0_ok 18 [lv 1, lv 0, lv 3, .sl 4 false []] (by simp [lookO]) rfl).mono fun r nx' ob' hp => ?_); obtain ⟨rfl, rfl, rfl⟩ := hp; simp [aftI, maxLen]) | refine cc1 (copyRcv0_ok 1 0) @maxLen.eq_1 ?_ | refine cc1 (openB0_ok) @maxLen.eq_1 ?_ | refine cc1 (rcving0_ok) @maxLen.eq_1 ?_ | refine cc1 (dec0_ok) @maxLen.eq_1 ?_ | refine awp_rounds 2 ?_ | refine arounds_step fun K hK => ?_ | (refine awp_planI ([0, 1, 2, 3, 4, 5, 6, 7, 8, 9, 10, 11, 12, 13] : List Nat) ([[], [0], [0, 1], [0, 1, 2], [0, 1, 2, 3], [0, 1, 2, 3, 4], [0, 1, 2, 3, 4, 5], [0, 1, 2, 3, 4, 5, 6], [0, 1, 2, 3, 4, 5, 6, 7], [0, 1, 2, 3, 4, 5, 6, 7, 8], [0, 1, 2, 3, 4], [0, 1, 2, 3, 4, 10], [0, 1, 2, 3, 4, 5, 6, 7, 8, 9, 10, 11], [0, 1, 2, 3, 4, 5, 6, 7, 8, 9, 10, 11, 12]] : List (List Nat)) ([(1, ([], [])), (1, ([], [])), (1, ([], [])), (1, ([], [])), (1, ([], [])), (7, ([[], [0], [0, 1], [0, 1, 2], [0, 1, 2, 3], [], [5]], [])), (1, ([], [])), (1, ([], []))] : List (Nat × List (List Nat) × List (Nat × Nat))) (by kernel_rfl) (by kernel_rfl) (by kernel_rfl) ?_) | exact rt1 @maxLen.eq_1 | fail) <;> (refine af1 @maxLen.eq_1 ?_; (repeat intro K hK); refine wr ?_))
end Go.Proofs.YtpifpdjefbehmaaGreat
