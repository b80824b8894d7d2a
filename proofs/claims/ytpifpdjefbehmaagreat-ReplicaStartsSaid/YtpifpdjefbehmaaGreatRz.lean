/- Replicas, the fixed run: the packet is opened. -/
import Derived.Test.YtpifpdjefbehmaaGreatRy
namespace Go.Proofs.YtpifpdjefbehmaaGreat
open Go.Ab Go.RowKit
set_option linter.unusedSimpArgs false
set_option maxRecDepth 100000
set_option maxHeartbeats 16000000
/-- a reader's box -/
abbrev rdO (s : Str) : Ob := ⟨294, 2, true, false, [[.str s, .bool false]]⟩
theorem uvar0_ok (r : Str) (hr : r.length ≤ 100000) : Meets Tryz.prog 130 [.str (0 :: r)] (.tup [lv 0, iv 1, .bool true]) := by
  by_cases hc : 10 < r.length + 1
  · have hc' : (10 : Int) < (r.length : Int) + 1 := by omega
    refine Meets.of Tryz.func130 rfl (by kernel_rfl) rfl ?_
    simp only [Tryz.ntmps130, St.start, argT]
    refine au1 @hc' ?_
    repeat intro K hK
    refine wr ?_
    (refine au1 @hc' ?_; (repeat intro K hK); refine wr ?_)
    repeat' ((first | (refine awp_cond rfl (fun h => ?_) (fun h => ?_) <;> (first | (simp [hc'] at h; done) | (simp [hc'] at h) | skip) <;> (first | (exfalso; omega) | skip)) | refine awp_rounds 1 ?_ | refine arounds_step fun K hK => ?_ | (refine awp_ret ?_; simp [hc']; (first | done | rfl | decide); done) | (refine awp_fzA ?_; refine awp_ret ?_; simp [hc']; (first | done | rfl | decide); done) | fail) <;> (refine au1 @hc' ?_; (repeat intro K hK); refine wr ?_))
  · have hc' : ¬ (10 : Int) < (r.length : Int) + 1 := by omega
    refine Meets.of Tryz.func130 rfl (by kernel_rfl) rfl ?_
    simp only [Tryz.ntmps130, St.start, argT]
    refine au1 @hc' ?_
    repeat intro K hK
    refine wr ?_
    (refine au1 @hc' ?_; (repeat intro K hK); refine wr ?_)
    repeat' ((first | (refine awp_cond rfl (fun h => ?_) (fun h => ?_) <;> (first | (simp [hc'] at h; done) | (simp [hc'] at h) | skip) <;> (first | (exfalso; omega) | skip)) | refine awp_rounds 1 ?_ | refine arounds_step fun K hK => ?_ | (refine awp_ret ?_; simp [hc']; (first | done | rfl | decide); done) | (refine awp_fzA ?_; refine awp_ret ?_; simp [hc']; (first | done | rfl | decide); done) | fail) <;> (refine au1 @hc' ?_; (repeat intro K hK); refine wr ?_))
theorem num0_ok {nx : Nat} {ob : List (Nat × Option Ob)} (id : Nat) (r : Str) (hr : r.length ≤ 100000) (hob : lookO ob id = some (rdO (0 :: r))) :
    InlC Tryz.prog 183 [.ptr id 2 0 0] nx ob fun v nx' ob' => v = lv 0 ∧ nx' = nx + 3 ∧ ob' = (id, some (rdO r)) :: ob := by
  refine InlC.of Tryz.func183 rfl (by kernel_rfl) rfl ?_
  simp only [Tryz.ntmps183, St.startI, argT]
  refine au1 @hob ?_
  repeat intro K hK
  refine wr ?_
  (refine au1 @hob ?_; (repeat intro K hK); refine wr ?_)
  repeat' ((first | (refine awp_cond rfl (fun h => ?_) (fun h => ?_) <;> (first | (simp [hob] at h; done) | (simp [hob] at h) | skip) <;> (first | (exfalso; omega) | skip)) | refine cc1 (uvar0_ok r hr) @hob ?_ | exact rt1 @hob | fail) <;> (refine au1 @hob ?_; (repeat intro K hK); refine wr ?_))
theorem uvar1_ok (r : Str) (hr : r.length ≤ 100000) : Meets Tryz.prog 130 [.str (1 :: r)] (.tup [lv 1, iv 1, .bool true]) := by
  by_cases hc : 10 < r.length + 1
  · have hc' : (10 : Int) < (r.length : Int) + 1 := by omega
    refine Meets.of Tryz.func130 rfl (by kernel_rfl) rfl ?_
    simp only [Tryz.ntmps130, St.start, argT]
    refine au1 @hc' ?_
    repeat intro K hK
    refine wr ?_
    (refine au1 @hc' ?_; (repeat intro K hK); refine wr ?_)
    repeat' ((first | (refine awp_cond rfl (fun h => ?_) (fun h => ?_) <;> (first | (simp [hc'] at h; done) | (simp [hc'] at h) | skip) <;> (first | (exfalso; omega) | skip)) | refine awp_rounds 1 ?_ | refine arounds_step fun K hK => ?_ | (refine awp_ret ?_; simp [hc']; (first | done | rfl | decide); done) | (refine awp_fzA ?_; refine awp_ret ?_; simp [hc']; (first | done | rfl | decide); done) | fail) <;> (refine au1 @hc' ?_; (repeat intro K hK); refine wr ?_))
  · have hc' : ¬ (10 : Int) < (r.length : Int) + 1 := by omega
    refine Meets.of Tryz.func130 rfl (by kernel_rfl) rfl ?_
    simp only [Tryz.ntmps130, St.start, argT]
    refine au1 @hc' ?_
    repeat intro K hK
    refine wr ?_
    (refine au1 @hc' ?_; (repeat intro K hK); refine wr ?_)
    repeat' ((first | (refine awp_cond rfl (fun h => ?_) (fun h => ?_) <;> (first | (simp [hc'] at h; done) | (simp [hc'] at h) | skip) <;> (first | (exfalso; omega) | skip)) | refine awp_rounds 1 ?_ | refine arounds_step fun K hK => ?_ | (refine awp_ret ?_; simp [hc']; (first | done | rfl | decide); done) | (refine awp_fzA ?_; refine awp_ret ?_; simp [hc']; (first | done | rfl | decide); done) | fail) <;> (refine au1 @hc' ?_; (repeat intro K hK); refine wr ?_))
theorem num1_ok {nx : Nat} {ob : List (Nat × Option Ob)} (id : Nat) (r : Str) (hr : r.length ≤ 100000) (hob : lookO ob id = some (rdO (1 :: r))) :
    InlC Tryz.prog 183 [.ptr id 2 0 0] nx ob fun v nx' ob' => v = lv 1 ∧ nx' = nx + 3 ∧ ob' = (id, some (rdO r)) :: ob := by
  refine InlC.of Tryz.func183 rfl (by kernel_rfl) rfl ?_
  simp only [Tryz.ntmps183, St.startI, argT]
  refine au1 @hob ?_
  repeat intro K hK
  refine wr ?_
  (refine au1 @hob ?_; (repeat intro K hK); refine wr ?_)
  repeat' ((first | (refine awp_cond rfl (fun h => ?_) (fun h => ?_) <;> (first | (simp [hob] at h; done) | (simp [hob] at h) | skip) <;> (first | (exfalso; omega) | skip)) | refine cc1 (uvar1_ok r hr) @hob ?_ | exact rt1 @hob | fail) <;> (refine au1 @hob ?_; (repeat intro K hK); refine wr ?_))
theorem uvar3_ok (r : Str) (hr : r.length ≤ 100000) : Meets Tryz.prog 130 [.str (3 :: r)] (.tup [lv 3, iv 1, .bool true]) := by
  by_cases hc : 10 < r.length + 1
  · have hc' : (10 : Int) < (r.length : Int) + 1 := by omega
    refine Meets.of Tryz.func130 rfl (by kernel_rfl) rfl ?_
    simp only [Tryz.ntmps130, St.start, argT]
    refine au1 @hc' ?_
    repeat intro K hK
    refine wr ?_
    (refine au1 @hc' ?_; (repeat intro K hK); refine wr ?_)
    repeat' ((first | (refine awp_cond rfl (fun h => ?_) (fun h => ?_) <;> (first | (simp [hc'] at h; done) | (simp [hc'] at h) | skip) <;> (first | (exfalso; omega) | skip)) | refine awp_rounds 1 ?_ | refine arounds_step fun K hK => ?_ | (refine awp_ret ?_; simp [hc']; (first | done | rfl | decide); done) | (refine awp_fzA ?_; refine awp_ret ?_; simp [hc']; (first | done | rfl | decide); done) | fail) <;> (refine au1 @hc' ?_; (repeat intro K hK); refine wr ?_))
  · have hc' : ¬ (10 : Int) < (r.length : Int) + 1 := by omega
    refine Meets.of Tryz.func130 rfl (by kernel_rfl) rfl ?_
    simp only [Tryz.ntmps130, St.start, argT]
    refine au1 @hc' ?_
    repeat intro K hK
    refine wr ?_
    (refine au1 @hc' ?_; (repeat intro K hK); refine wr ?_)
    repeat' ((first | (refine awp_cond rfl (fun h => ?_) (fun h => ?_) <;> (first | (simp [hc'] at h; done) | (simp [hc'] at h) | skip) <;> (first | (exfalso; omega) | skip)) | refine awp_rounds 1 ?_ | refine arounds_step fun K hK => ?_ | (refine awp_ret ?_; simp [hc']; (first | done | rfl | decide); done) | (refine awp_fzA ?_; refine awp_ret ?_; simp [hc']; (first | done | rfl | decide); done) | fail) <;> (refine au1 @hc' ?_; (repeat intro K hK); refine wr ?_))
theorem num3_ok {nx : Nat} {ob : List (Nat × Option Ob)} (id : Nat) (r : Str) (hr : r.length ≤ 100000) (hob : lookO ob id = some (rdO (3 :: r))) :
    InlC Tryz.prog 183 [.ptr id 2 0 0] nx ob fun v nx' ob' => v = lv 3 ∧ nx' = nx + 3 ∧ ob' = (id, some (rdO r)) :: ob := by
  refine InlC.of Tryz.func183 rfl (by kernel_rfl) rfl ?_
  simp only [Tryz.ntmps183, St.startI, argT]
  refine au1 @hob ?_
  repeat intro K hK
  refine wr ?_
  (refine au1 @hob ?_; (repeat intro K hK); refine wr ?_)
  repeat' ((first | (refine awp_cond rfl (fun h => ?_) (fun h => ?_) <;> (first | (simp [hob] at h; done) | (simp [hob] at h) | skip) <;> (first | (exfalso; omega) | skip)) | refine cc1 (uvar3_ok r hr) @hob ?_ | exact rt1 @hob | fail) <;> (refine au1 @hob ?_; (repeat intro K hK); refine wr ?_))
theorem uvar5_ok (r : Str) (hr : r.length ≤ 100000) : Meets Tryz.prog 130 [.str (5 :: r)] (.tup [lv 5, iv 1, .bool true]) := by
  by_cases hc : 10 < r.length + 1
  · have hc' : (10 : Int) < (r.length : Int) + 1 := by omega
    refine Meets.of Tryz.func130 rfl (by kernel_rfl) rfl ?_
    simp only [Tryz.ntmps130, St.start, argT]
    refine au1 @hc' ?_
    repeat intro K hK
    refine wr ?_
    (refine au1 @hc' ?_; (repeat intro K hK); refine wr ?_)
    repeat' ((first | (refine awp_cond rfl (fun h => ?_) (fun h => ?_) <;> (first | (simp [hc'] at h; done) | (simp [hc'] at h) | skip) <;> (first | (exfalso; omega) | skip)) | refine awp_rounds 1 ?_ | refine arounds_step fun K hK => ?_ | (refine awp_ret ?_; simp [hc']; (first | done | rfl | decide); done) | (refine awp_fzA ?_; refine awp_ret ?_; simp [hc']; (first | done | rfl | decide); done) | fail) <;> (refine au1 @hc' ?_; (repeat intro K hK); refine wr ?_))
  · have hc' : ¬ (10 : Int) < (r.length : Int) + 1 := by omega
    refine Meets.of Tryz.func130 rfl (by kernel_rfl) rfl ?_
    simp only [Tryz.ntmps130, St.start, argT]
    refine au1 @hc' ?_
    repeat intro K hK
    refine wr ?_
    (refine au1 @hc' ?_; (repeat intro K hK); refine wr ?_)
    repeat' ((first | (refine awp_cond rfl (fun h => ?_) (fun h => ?_) <;> (first | (simp [hc'] at h; done) | (simp [hc'] at h) | skip) <;> (first | (exfalso; omega) | skip)) | refine awp_rounds 1 ?_ | refine arounds_step fun K hK => ?_ | (refine awp_ret ?_; simp [hc']; (first | done | rfl | decide); done) | (refine awp_fzA ?_; refine awp_ret ?_; simp [hc']; (first | done | rfl | decide); done) | fail) <;> (refine au1 @hc' ?_; (repeat intro K hK); refine wr ?_))
theorem num5_ok {nx : Nat} {ob : List (Nat × Option Ob)} (id : Nat) (r : Str) (hr : r.length ≤ 100000) (hob : lookO ob id = some (rdO (5 :: r))) :
    InlC Tryz.prog 183 [.ptr id 2 0 0] nx ob fun v nx' ob' => v = lv 5 ∧ nx' = nx + 3 ∧ ob' = (id, some (rdO r)) :: ob := by
  refine InlC.of Tryz.func183 rfl (by kernel_rfl) rfl ?_
  simp only [Tryz.ntmps183, St.startI, argT]
  refine au1 @hob ?_
  repeat intro K hK
  refine wr ?_
  (refine au1 @hob ?_; (repeat intro K hK); refine wr ?_)
  repeat' ((first | (refine awp_cond rfl (fun h => ?_) (fun h => ?_) <;> (first | (simp [hob] at h; done) | (simp [hob] at h) | skip) <;> (first | (exfalso; omega) | skip)) | refine cc1 (uvar5_ok r hr) @hob ?_ | exact rt1 @hob | fail) <;> (refine au1 @hob ?_; (repeat intro K hK); refine wr ?_))
theorem data5_ok {nx : Nat} {ob : List (Nat × Option Ob)} (id : Nat) (r : Str) (hr : r.length ≤ 10000) (hob : lookO ob id = some (rdO (5 :: 68 :: 0 :: 3 :: 0 :: 0 :: r))) :
    InlC Tryz.prog 184 [.ptr id 2 0 0] nx ob fun v nx' ob' => v = .str [68, 0, 3, 0, 0] ∧ nx' = nx + 3 ∧ ob' = (id, some (rdO r)) :: (id, some (rdO (68 :: 0 :: 3 :: 0 :: 0 :: r))) :: ob := by
  have hw : IntKind.u64.wrap ((r.length : Int) + 1 + 1 + 1 + 1 + 1) = (r.length : Int) + 5 := by rw [IntKind.wrap_u64]; omega
  have ht : ((r.length : Int) + 1 + 1 + 1 + 1 + 1).toNat = r.length + 1 + 1 + 1 + 1 + 1 := by omega
  refine InlC.of Tryz.func184 rfl (by kernel_rfl) rfl ?_
  simp only [Tryz.ntmps184, St.startI, argT]
  refine au1 @hob ?_
  repeat intro K hK
  refine wr ?_
  (refine au3 @hob @hw @ht ?_; (repeat intro K hK); refine wr ?_)
  repeat' ((first | (refine awp_cond rfl (fun h => ?_) (fun h => ?_) <;> (first | (simp [hob, hw, ht] at h; done) | (simp [hob, hw, ht] at h) | skip) <;> (first | (exfalso; omega) | skip)) | ((first | refine .inr ((num5_ok id (68 :: 0 :: 3 :: 0 :: 0 :: r) (by simp; omega) hob).mono fun r nx' ob' hp => ?_) | refine (num5_ok id (68 :: 0 :: 3 :: 0 :: 0 :: r) (by simp; omega) hob).mono fun r nx' ob' hp => ?_); obtain ⟨rfl, rfl, rfl⟩ := hp; simp [aftI, hob, hw, ht]) | exact rt3 @hob @hw @ht | fail) <;> (refine au3 @hob @hw @ht ?_; (repeat intro K hK); refine wr ?_))
theorem open0_ok : Meets Tryz.prog 132 [.str pkA] (.tup [lv 1, .str [68, 0, 3, 0, 0], iv 0]) := by
  obtain ⟨z, hz⟩ : ∃ z, z = hashI 14695981039346656037 (sealB 1 [68, 0, 3, 0, 0]) := ⟨_, rfl⟩
  have hs := sum_ok (sealB 1 [68, 0, 3, 0, 0]) (by decide)
  have hl := sum_len z
  rw [show pkA = 1 :: 5 :: 68 :: 0 :: 3 :: 0 :: 0 :: sumD z by rw [hz]; rfl]
  rw [← hz, show sealB 1 [68, 0, 3, 0, 0] = [1, 5, 68, 0, 3, 0, 0] by rfl] at hs
  clear hz
  generalize sumD z = q at *
  refine Meets.of Tryz.func132 rfl (by kernel_rfl) rfl ?_
  simp only [Tryz.ntmps132, St.start, argT]
  refine au ?_
  repeat intro K hK
  refine wr ?_
  (refine af1 @hl ?_; (repeat intro K hK); refine wr ?_)
  repeat' ((first | (refine awp_cond rfl (fun h => ?_) (fun h => ?_) <;> (first | (simp [hl] at h; done) | (simp [hl] at h) | skip) <;> (first | (exfalso; omega) | skip)) | ((first | refine .inr ((num1_ok 0 (5 :: 68 :: 0 :: 3 :: 0 :: 0 :: q) (by simp; omega) (by simp [lookO])).mono fun r nx' ob' hp => ?_) | refine (num1_ok 0 (5 :: 68 :: 0 :: 3 :: 0 :: 0 :: q) (by simp; omega) (by simp [lookO])).mono fun r nx' ob' hp => ?_); obtain ⟨rfl, rfl, rfl⟩ := hp; simp [aftI, hl]) | ((first | refine .inr ((data5_ok 0 q (by omega) (by simp [lookO])).mono fun r nx' ob' hp => ?_) | refine (data5_ok 0 q (by omega) (by simp [lookO])).mono fun r nx' ob' hp => ?_); obtain ⟨rfl, rfl, rfl⟩ := hp; simp [aftI, hl]) | refine cc1 (hs) @hl ?_ | (refine awp_planI ([0, 1, 2, 3, 4, 5, 6, 7, 8, 9, 10] : List Nat) ([[], [], [1], [1, 2], [0, 1, 2, 3], [0, 1, 2, 3, 4], [], [6], [6, 7], [6, 7, 8], [0, 1, 2, 3, 4, 5, 6, 7, 8, 9]] : List (List Nat)) ([(10, ([[], [], [1], [1, 2], [0, 1, 2, 3], [0, 1, 2, 3, 4], [], [6], [6, 7], [6, 7, 8]], [(9, 5)])), (1, ([], []))] : List (Nat × List (List Nat) × List (Nat × Nat))) (by kernel_rfl) (by kernel_rfl) (by kernel_rfl) ?_) | exact rt1 @hl | fail) <;> (refine af1 @hl ?_; (repeat intro K hK); refine wr ?_))
theorem openB0_ok : Meets Tryz.prog 129 [.str pkA, .int .u8 68] (.tup [lv 1, .str [0, 3, 0, 0], .bool true]) := by
  refine Meets.of Tryz.func129 rfl (by kernel_rfl) rfl ?_
  simp only [Tryz.ntmps129, St.start, argT]
  refine au ?_
  repeat intro K hK
  refine wr ?_
  (refine af ?_; (repeat intro K hK); refine wr ?_)
  repeat' ((first | (refine awp_cond rfl (fun h => ?_) (fun h => ?_) <;> (first | (simp at h; done) | (simp at h) | skip) <;> (first | (exfalso; omega) | skip)) | refine cc (open0_ok) ?_ | (refine awp_planI ([0, 1, 2, 3, 4, 5] : List Nat) ([[], [], [1], [0], [0, 1, 2, 3], [0, 1, 2, 3, 4]] : List (List Nat)) ([(4, ([[], [], [1], [0]], [])), (1, ([], [])), (1, ([], []))] : List (Nat × List (List Nat) × List (Nat × Nat))) (by kernel_rfl) (by kernel_rfl) (by kernel_rfl) ?_) | exact rt | fail) <;> (refine af ?_; (repeat intro K hK); refine wr ?_))
end Go.Proofs.YtpifpdjefbehmaaGreat
