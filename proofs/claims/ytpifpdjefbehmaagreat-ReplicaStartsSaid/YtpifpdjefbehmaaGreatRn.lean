/- Replicas, the fixed run: steps of the machine, three of them recorded. -/
import Derived.Test.YtpifpdjefbehmaaGreatRm
namespace Go.Proofs.YtpifpdjefbehmaaGreat
open Go.Ab Go.RowKit
set_option linter.unusedSimpArgs false
set_option maxRecDepth 100000
set_option maxHeartbeats 16000000
theorem due_ok (k : Int) : Meets Tryz.prog 113 [.st zTim.row, uv k] (.bool false) := by
  refine Meets.of Tryz.func113 rfl (by kernel_rfl) rfl ?_
  simp only [Tryz.ntmps113, St.start, argT]
  refine au ?_
  repeat intro K hK
  refine wr ?_
  (refine au ?_; (repeat intro K hK); refine wr ?_)
  repeat' ((first | (refine awp_cond rfl (fun h => ?_) (fun h => ?_) <;> (first | (simp at h; done) | (simp at h) | skip) <;> (first | (exfalso; omega) | skip)) | exact rt | fail) <;> (refine au ?_; (repeat intro K hK); refine wr ?_))
theorem mayA_ok : Meets Tryz.prog 46 [.st (mk 1 0 0).row] (.bool true) := by
  have h := may_ok (mk 1 0 0) (by decide) (by decide)
  rwa [show mayD (mk 1 0 0) = true by kernel_rfl] at h
theorem idleA_ok : Meets Tryz.prog 114 [.st (mk 1 0 0).row] (.bool false) := by
  refine Meets.of Tryz.func114 rfl (by kernel_rfl) rfl ?_
  simp only [Tryz.ntmps114, St.start, argT]
  refine aum1 @mk.eq_1 ?_
  repeat intro K hK
  refine wr ?_
  (refine au1 @mk.eq_1 ?_; (repeat intro K hK); refine wr ?_)
  repeat' ((first | (refine awp_cond rfl (fun h => ?_) (fun h => ?_) <;> (first | (simp [mk] at h; done) | (simp [mk] at h) | skip) <;> (first | (exfalso; omega) | skip)) | exact rt1 @mk.eq_1 | fail) <;> (refine au1 @mk.eq_1 ?_; (repeat intro K hK); refine wr ?_))
theorem runsA_ok : Meets Tryz.prog 170 [.st (mk 1 0 0).row] (.bool true) := by
  refine Meets.of Tryz.func170 rfl (by kernel_rfl) rfl ?_
  simp only [Tryz.ntmps170, St.start, argT]
  refine au ?_
  repeat intro K hK
  refine wr ?_
  (refine au1 @mk.eq_1 ?_; (repeat intro K hK); refine wr ?_)
  repeat' ((first | (refine awp_cond rfl (fun h => ?_) (fun h => ?_) <;> (first | (simp [mk] at h; done) | (simp [mk] at h) | skip) <;> (first | (exfalso; omega) | skip)) | refine cc1 (mayA_ok) @mk.eq_1 ?_ | refine cc1 (idleA_ok) @mk.eq_1 ?_ | exact rt1 @mk.eq_1 | fail) <;> (refine au1 @mk.eq_1 ?_; (repeat intro K hK); refine wr ?_))
theorem beginA_ok : Meets Tryz.prog 171 [.st (mk 1 0 0).row] (.st (mk 1 0 0).row) := by
  refine Meets.of Tryz.func171 rfl (by kernel_rfl) rfl ?_
  simp only [Tryz.ntmps171, St.start, argT]
  refine au ?_
  repeat intro K hK
  refine wr ?_
  (refine au5 @mk.eq_1 @iand.eq_1 @ior.eq_1 @iandn.eq_1 @bits32 ?_; (repeat intro K hK); refine wr ?_)
  repeat' ((first | (refine awp_cond rfl (fun h => ?_) (fun h => ?_) <;> (first | (simp [mk, iand, ior, iandn, bits32] at h; done) | (simp [mk, iand, ior, iandn, bits32] at h) | skip) <;> (first | (exfalso; omega) | skip)) | exact rt5 @mk.eq_1 @iand.eq_1 @ior.eq_1 @iandn.eq_1 @bits32 | fail) <;> (refine au5 @mk.eq_1 @iand.eq_1 @ior.eq_1 @iandn.eq_1 @bits32 ?_; (repeat intro K hK); refine wr ?_))
theorem readsA_ok : Meets Tryz.prog 115 [.st (mk 1 0 0).row] (.bool false) := by
  refine Meets.of Tryz.func115 rfl (by kernel_rfl) rfl ?_
  simp only [Tryz.ntmps115, St.start, argT]
  refine au ?_
  repeat intro K hK
  refine wr ?_
  (refine au2 @mk.eq_1 @cpA.eq_1 ?_; (repeat intro K hK); refine wr ?_)
  repeat' ((first | (refine awp_cond rfl (fun h => ?_) (fun h => ?_) <;> (first | (simp [mk, cpA] at h; done) | (simp [mk, cpA] at h) | skip) <;> (first | (exfalso; omega) | skip)) | refine cc2 (runsA_ok) @mk.eq_1 @cpA.eq_1 ?_ | refine cc2 (beginA_ok) @mk.eq_1 @cpA.eq_1 ?_ | refine cc2 (exec1_ok) @mk.eq_1 @cpA.eq_1 ?_ | exact rt2 @mk.eq_1 @cpA.eq_1 | fail) <;> (refine au2 @mk.eq_1 @cpA.eq_1 ?_; (repeat intro K hK); refine wr ?_))
theorem stepA_ok (k : Int) : Meets Tryz.prog 116 [.st (mk 1 0 0).row, uv k] (.tup [.st (mk 9 1 1).row, .sl 4 false []]) := by
  refine Meets.of Tryz.func116 rfl (by kernel_rfl) rfl ?_
  simp only [Tryz.ntmps116, St.start, argT]
  refine au ?_
  repeat intro K hK
  refine wr ?_
  (refine au2 @mk.eq_1 @cpA.eq_1 ?_; (repeat intro K hK); refine wr ?_)
  repeat' ((first | (refine awp_cond rfl (fun h => ?_) (fun h => ?_) <;> (first | (simp [mk, cpA] at h; done) | (simp [mk, cpA] at h) | skip) <;> (first | (exfalso; omega) | skip)) | refine cc2 (cloneW (ints .u32 mem0) false 1 (.inl rfl) (by rw [mem0_l]; decide)) @mk.eq_1 @cpA.eq_1 ?_ | refine cc2 (runsA_ok) @mk.eq_1 @cpA.eq_1 ?_ | refine cc2 (beginA_ok) @mk.eq_1 @cpA.eq_1 ?_ | refine cc2 (exec1_ok) @mk.eq_1 @cpA.eq_1 ?_ | exact rt2 @mk.eq_1 @cpA.eq_1 | fail) <;> (refine au2 @mk.eq_1 @cpA.eq_1 ?_; (repeat intro K hK); refine wr ?_))
theorem mayB_ok : Meets Tryz.prog 46 [.st (mk 9 1 1).row] (.bool true) := by
  have h := may_ok (mk 9 1 1) (by decide) (by decide)
  rwa [show mayD (mk 9 1 1) = true by kernel_rfl] at h
theorem idleB_ok : Meets Tryz.prog 114 [.st (mk 9 1 1).row] (.bool false) := by
  refine Meets.of Tryz.func114 rfl (by kernel_rfl) rfl ?_
  simp only [Tryz.ntmps114, St.start, argT]
  refine aum1 @mk.eq_1 ?_
  repeat intro K hK
  refine wr ?_
  (refine au1 @mk.eq_1 ?_; (repeat intro K hK); refine wr ?_)
  repeat' ((first | (refine awp_cond rfl (fun h => ?_) (fun h => ?_) <;> (first | (simp [mk] at h; done) | (simp [mk] at h) | skip) <;> (first | (exfalso; omega) | skip)) | exact rt1 @mk.eq_1 | fail) <;> (refine au1 @mk.eq_1 ?_; (repeat intro K hK); refine wr ?_))
theorem runsB_ok : Meets Tryz.prog 170 [.st (mk 9 1 1).row] (.bool true) := by
  refine Meets.of Tryz.func170 rfl (by kernel_rfl) rfl ?_
  simp only [Tryz.ntmps170, St.start, argT]
  refine au ?_
  repeat intro K hK
  refine wr ?_
  (refine au1 @mk.eq_1 ?_; (repeat intro K hK); refine wr ?_)
  repeat' ((first | (refine awp_cond rfl (fun h => ?_) (fun h => ?_) <;> (first | (simp [mk] at h; done) | (simp [mk] at h) | skip) <;> (first | (exfalso; omega) | skip)) | refine cc1 (mayB_ok) @mk.eq_1 ?_ | refine cc1 (idleB_ok) @mk.eq_1 ?_ | exact rt1 @mk.eq_1 | fail) <;> (refine au1 @mk.eq_1 ?_; (repeat intro K hK); refine wr ?_))
theorem beginB_ok : Meets Tryz.prog 171 [.st (mk 9 1 1).row] (.st (mk 9 1 1).row) := by
  refine Meets.of Tryz.func171 rfl (by kernel_rfl) rfl ?_
  simp only [Tryz.ntmps171, St.start, argT]
  refine au ?_
  repeat intro K hK
  refine wr ?_
  (refine au5 @mk.eq_1 @iand.eq_1 @ior.eq_1 @iandn.eq_1 @bits32 ?_; (repeat intro K hK); refine wr ?_)
  repeat' ((first | (refine awp_cond rfl (fun h => ?_) (fun h => ?_) <;> (first | (simp [mk, iand, ior, iandn, bits32] at h; done) | (simp [mk, iand, ior, iandn, bits32] at h) | skip) <;> (first | (exfalso; omega) | skip)) | exact rt5 @mk.eq_1 @iand.eq_1 @ior.eq_1 @iandn.eq_1 @bits32 | fail) <;> (refine au5 @mk.eq_1 @iand.eq_1 @ior.eq_1 @iandn.eq_1 @bits32 ?_; (repeat intro K hK); refine wr ?_))
theorem readsB_ok : Meets Tryz.prog 115 [.st (mk 9 1 1).row] (.bool false) := by
  refine Meets.of Tryz.func115 rfl (by kernel_rfl) rfl ?_
  simp only [Tryz.ntmps115, St.start, argT]
  refine au ?_
  repeat intro K hK
  refine wr ?_
  (refine au2 @mk.eq_1 @cpA.eq_1 ?_; (repeat intro K hK); refine wr ?_)
  repeat' ((first | (refine awp_cond rfl (fun h => ?_) (fun h => ?_) <;> (first | (simp [mk, cpA] at h; done) | (simp [mk, cpA] at h) | skip) <;> (first | (exfalso; omega) | skip)) | refine cc2 (runsB_ok) @mk.eq_1 @cpA.eq_1 ?_ | refine cc2 (beginB_ok) @mk.eq_1 @cpA.eq_1 ?_ | refine cc2 (exec9_ok) @mk.eq_1 @cpA.eq_1 ?_ | exact rt2 @mk.eq_1 @cpA.eq_1 | fail) <;> (refine au2 @mk.eq_1 @cpA.eq_1 ?_; (repeat intro K hK); refine wr ?_))
theorem stepB_ok (k : Int) : Meets Tryz.prog 116 [.st (mk 9 1 1).row, uv k] (.tup [.st (mk 9 1 2).row, .sl 4 false []]) := by
  refine Meets.of Tryz.func116 rfl (by kernel_rfl) rfl ?_
  simp only [Tryz.ntmps116, St.start, argT]
  refine au ?_
  repeat intro K hK
  refine wr ?_
  (refine au2 @mk.eq_1 @cpA.eq_1 ?_; (repeat intro K hK); refine wr ?_)
  repeat' ((first | (refine awp_cond rfl (fun h => ?_) (fun h => ?_) <;> (first | (simp [mk, cpA] at h; done) | (simp [mk, cpA] at h) | skip) <;> (first | (exfalso; omega) | skip)) | refine cc2 (cloneW (ints .u32 mem0) false 1 (.inl rfl) (by rw [mem0_l]; decide)) @mk.eq_1 @cpA.eq_1 ?_ | refine cc2 (runsB_ok) @mk.eq_1 @cpA.eq_1 ?_ | refine cc2 (beginB_ok) @mk.eq_1 @cpA.eq_1 ?_ | refine cc2 (exec9_ok) @mk.eq_1 @cpA.eq_1 ?_ | exact rt2 @mk.eq_1 @cpA.eq_1 | fail) <;> (refine au2 @mk.eq_1 @cpA.eq_1 ?_; (repeat intro K hK); refine wr ?_))
theorem mayC_ok : Meets Tryz.prog 46 [.st (mk 9 1 2).row] (.bool true) := by
  have h := may_ok (mk 9 1 2) (by decide) (by decide)
  rwa [show mayD (mk 9 1 2) = true by kernel_rfl] at h
theorem idleC_ok : Meets Tryz.prog 114 [.st (mk 9 1 2).row] (.bool false) := by
  refine Meets.of Tryz.func114 rfl (by kernel_rfl) rfl ?_
  simp only [Tryz.ntmps114, St.start, argT]
  refine aum1 @mk.eq_1 ?_
  repeat intro K hK
  refine wr ?_
  (refine au1 @mk.eq_1 ?_; (repeat intro K hK); refine wr ?_)
  repeat' ((first | (refine awp_cond rfl (fun h => ?_) (fun h => ?_) <;> (first | (simp [mk] at h; done) | (simp [mk] at h) | skip) <;> (first | (exfalso; omega) | skip)) | exact rt1 @mk.eq_1 | fail) <;> (refine au1 @mk.eq_1 ?_; (repeat intro K hK); refine wr ?_))
theorem runsC_ok : Meets Tryz.prog 170 [.st (mk 9 1 2).row] (.bool true) := by
  refine Meets.of Tryz.func170 rfl (by kernel_rfl) rfl ?_
  simp only [Tryz.ntmps170, St.start, argT]
  refine au ?_
  repeat intro K hK
  refine wr ?_
  (refine au1 @mk.eq_1 ?_; (repeat intro K hK); refine wr ?_)
  repeat' ((first | (refine awp_cond rfl (fun h => ?_) (fun h => ?_) <;> (first | (simp [mk] at h; done) | (simp [mk] at h) | skip) <;> (first | (exfalso; omega) | skip)) | refine cc1 (mayC_ok) @mk.eq_1 ?_ | refine cc1 (idleC_ok) @mk.eq_1 ?_ | exact rt1 @mk.eq_1 | fail) <;> (refine au1 @mk.eq_1 ?_; (repeat intro K hK); refine wr ?_))
theorem beginC_ok : Meets Tryz.prog 171 [.st (mk 9 1 2).row] (.st (mk 9 1 2).row) := by
  refine Meets.of Tryz.func171 rfl (by kernel_rfl) rfl ?_
  simp only [Tryz.ntmps171, St.start, argT]
  refine au ?_
  repeat intro K hK
  refine wr ?_
  (refine au5 @mk.eq_1 @iand.eq_1 @ior.eq_1 @iandn.eq_1 @bits32 ?_; (repeat intro K hK); refine wr ?_)
  repeat' ((first | (refine awp_cond rfl (fun h => ?_) (fun h => ?_) <;> (first | (simp [mk, iand, ior, iandn, bits32] at h; done) | (simp [mk, iand, ior, iandn, bits32] at h) | skip) <;> (first | (exfalso; omega) | skip)) | exact rt5 @mk.eq_1 @iand.eq_1 @ior.eq_1 @iandn.eq_1 @bits32 | fail) <;> (refine au5 @mk.eq_1 @iand.eq_1 @ior.eq_1 @iandn.eq_1 @bits32 ?_; (repeat intro K hK); refine wr ?_))
theorem readsC_ok : Meets Tryz.prog 115 [.st (mk 9 1 2).row] (.bool false) := by
  refine Meets.of Tryz.func115 rfl (by kernel_rfl) rfl ?_
  simp only [Tryz.ntmps115, St.start, argT]
  refine au ?_
  repeat intro K hK
  refine wr ?_
  (refine au2 @mk.eq_1 @cpA.eq_1 ?_; (repeat intro K hK); refine wr ?_)
  repeat' ((first | (refine awp_cond rfl (fun h => ?_) (fun h => ?_) <;> (first | (simp [mk, cpA] at h; done) | (simp [mk, cpA] at h) | skip) <;> (first | (exfalso; omega) | skip)) | refine cc2 (runsC_ok) @mk.eq_1 @cpA.eq_1 ?_ | refine cc2 (beginC_ok) @mk.eq_1 @cpA.eq_1 ?_ | refine cc2 (exec9_ok) @mk.eq_1 @cpA.eq_1 ?_ | exact rt2 @mk.eq_1 @cpA.eq_1 | fail) <;> (refine au2 @mk.eq_1 @cpA.eq_1 ?_; (repeat intro K hK); refine wr ?_))
theorem stepC_ok (k : Int) : Meets Tryz.prog 116 [.st (mk 9 1 2).row, uv k] (.tup [.st (mk 9 1 3).row, .sl 4 false []]) := by
  refine Meets.of Tryz.func116 rfl (by kernel_rfl) rfl ?_
  simp only [Tryz.ntmps116, St.start, argT]
  refine au ?_
  repeat intro K hK
  refine wr ?_
  (refine au2 @mk.eq_1 @cpA.eq_1 ?_; (repeat intro K hK); refine wr ?_)
  repeat' ((first | (refine awp_cond rfl (fun h => ?_) (fun h => ?_) <;> (first | (simp [mk, cpA] at h; done) | (simp [mk, cpA] at h) | skip) <;> (first | (exfalso; omega) | skip)) | refine cc2 (cloneW (ints .u32 mem0) false 1 (.inl rfl) (by rw [mem0_l]; decide)) @mk.eq_1 @cpA.eq_1 ?_ | refine cc2 (runsC_ok) @mk.eq_1 @cpA.eq_1 ?_ | refine cc2 (beginC_ok) @mk.eq_1 @cpA.eq_1 ?_ | refine cc2 (exec9_ok) @mk.eq_1 @cpA.eq_1 ?_ | exact rt2 @mk.eq_1 @cpA.eq_1 | fail) <;> (refine au2 @mk.eq_1 @cpA.eq_1 ?_; (repeat intro K hK); refine wr ?_))
theorem lenM (s c n : Int) : (mk s c n).mem.length ≤ 100000 := by rw [mk_mem, mem0_len]; decide
abbrev recR (s c n k : Int) : RecD := ⟨mk s c n, k, [], []⟩
theorem adv_ok : Meets Tryz.prog 67 [.st (recR 1 0 0 0).row, iv 3, uv 0] (.tup [.st (recR 9 1 3 3).row, .sl 4 false []]) := by
  refine Meets.of Tryz.func67 rfl (by kernel_rfl) rfl ?_
  simp only [Tryz.ntmps67, St.start, argT]
  refine au ?_
  repeat intro K hK
  refine wr ?_
  (refine au1 @mk.eq_1 ?_; (repeat intro K hK); refine wr ?_)
  repeat' ((first | (refine awp_cond rfl (fun h => ?_) (fun h => ?_) <;> (first | (simp [mk] at h; done) | (simp [mk] at h) | skip) <;> (first | (exfalso; omega) | skip)) | refine cc1 (recCop_ok (recR 1 0 0 0) (lenM _ _ _) (by simp) (by simp)) @mk.eq_1 ?_ | refine cc1 (mayA_ok) @mk.eq_1 ?_ | refine cc1 (due_ok _) @mk.eq_1 ?_ | refine cc1 (idleA_ok) @mk.eq_1 ?_ | refine cc1 (idleB_ok) @mk.eq_1 ?_ | refine cc1 (idleC_ok) @mk.eq_1 ?_ | refine cc1 (readsA_ok) @mk.eq_1 ?_ | refine cc1 (readsB_ok) @mk.eq_1 ?_ | refine cc1 (readsC_ok) @mk.eq_1 ?_ | refine cc1 (stepA_ok _) @mk.eq_1 ?_ | refine cc1 (stepB_ok _) @mk.eq_1 ?_ | refine cc1 (stepC_ok _) @mk.eq_1 ?_ | refine awp_rounds 5 ?_ | refine arounds_step fun K hK => ?_ | exact rt1 @mk.eq_1 | fail) <;> (refine au1 @mk.eq_1 ?_; (repeat intro K hK); refine wr ?_))
end Go.Proofs.YtpifpdjefbehmaaGreat
