/- Replicas, the fixed run: clone and its like. -/
import Derived.Test.YtpifpdjefbehmaaGreatRk
namespace Go.Proofs.YtpifpdjefbehmaaGreat
open Go.Ab Go.RowKit
set_option linter.unusedSimpArgs false
set_option maxRecDepth 100000
set_option maxHeartbeats 8000000
theorem copyM_ok (m : MchD) (h1 : m.mem.length ≤ 100000) : Meets Tryz.prog 44 [.st m.row] (.st m.row) := by
  refine Meets.of Tryz.func44 rfl (by kernel_rfl) rfl ?_
  simp only [Tryz.ntmps44, St.start, argT]
  refine au ?_
  repeat intro K hK
  refine wr ?_
  (refine au ?_; (repeat intro K hK); refine wr ?_)
  repeat' ((first | (refine awp_cond rfl (fun h => ?_) (fun h => ?_) <;> (first | (simp at h; done) | (simp at h) | skip) <;> (first | (exfalso; omega) | skip)) | refine cc (cloneW (ints .u32 m.mem) false 1 (.inl rfl) (by rw [ints_len']; exact h1)) ?_ | exact rt | fail) <;> (refine au ?_; (repeat intro K hK); refine wr ?_))
theorem copyS_ok (a b : Int) : Meets Tryz.prog 65 [.st [lv a, lv b, .sl 4 false []]] (.st [lv a, lv b, .sl 4 false []]) := by
  refine Meets.of Tryz.func65 rfl (by kernel_rfl) rfl ?_
  simp only [Tryz.ntmps65, St.start, argT]
  refine au ?_
  repeat intro K hK
  refine wr ?_
  (refine au ?_; (repeat intro K hK); refine wr ?_)
  repeat' ((first | (refine awp_cond rfl (fun h => ?_) (fun h => ?_) <;> (first | (simp at h; done) | (simp at h) | skip) <;> (first | (exfalso; omega) | skip)) | refine cc (cloneE [] false 4 (.inl rfl) (by simp)) ?_ | exact rt | fail) <;> (refine au ?_; (repeat intro K hK); refine wr ?_))
theorem sCopyS_ok (a b : Int) : Meets Tryz.prog 121 [.st [lv a, lv b, .sl 4 false []]] (.st [lv a, lv b, .sl 4 false []]) := by
  refine Meets.of Tryz.func121 rfl (by kernel_rfl) rfl ?_
  simp only [Tryz.ntmps121, St.start, argT]
  refine au ?_
  repeat intro K hK
  refine wr ?_
  (refine au ?_; (repeat intro K hK); refine wr ?_)
  repeat' ((first | (refine awp_cond rfl (fun h => ?_) (fun h => ?_) <;> (first | (simp at h; done) | (simp at h) | skip) <;> (first | (exfalso; omega) | skip)) | refine cc (cloneE [] false 4 (.inl rfl) (by simp)) ?_ | exact rt | fail) <;> (refine au ?_; (repeat intro K hK); refine wr ?_))
/-- a replica without entries, outputs, early segments; its queue has these segments, which have no entries -/
abbrev repQ (host role gen : Int) (m : MchD) (c : Int) (n : MchD) (k d ga gb mark sa sb sc ra rb wa wb wc beats cmd cmdAt : Int) (q : List SegD) : RepD :=
  ⟨host, role, gen, ⟨m, c, [], []⟩, ⟨n, [], k, d⟩, ⟨[], ga, gb⟩, mark, ⟨sa, sb, sc, q⟩, ⟨ra, rb, []⟩, ⟨wa, wb, wc⟩, beats, cmd, cmdAt, []⟩
theorem clone0_ok (host role gen : Int) (m : MchD) (c : Int) (n : MchD) (k d ga gb mark sa sb sc ra rb wa wb wc beats cmd cmdAt : Int) (hm : m.mem.length ≤ 100000) (hn : n.mem.length ≤ 100000) :
    Meets Tryz.prog 35 [.st (repQ host role gen m c n k d ga gb mark sa sb sc ra rb wa wb wc beats cmd cmdAt []).row] (.st (repQ host role gen m c n k d ga gb mark sa sb sc ra rb wa wb wc beats cmd cmdAt []).row) := by
  refine Meets.of Tryz.func35 rfl (by kernel_rfl) rfl ?_
  simp only [Tryz.ntmps35, St.start, argT]
  refine au ?_
  repeat intro K hK
  refine wr ?_
  (refine af ?_; (repeat intro K hK); refine wr ?_)
  repeat' ((first | (refine awp_cond rfl (fun h => ?_) (fun h => ?_) <;> (first | (simp at h; done) | (simp at h) | skip) <;> (first | (exfalso; omega) | skip)) | refine cc (copyM_ok m hm) ?_ | refine cc (copyM_ok n hn) ?_ | refine cc (cloneE [] false 4 (.inl rfl) (by simp)) ?_ | refine cc (cloneV [] false 3 (.inl rfl) (by simp)) ?_ | refine cc (cloneO [] false 4 (.inl rfl) (by simp)) ?_ | refine cc (cloneS [] false 3 (.inl rfl) (by simp)) ?_ | refine cc (cloneY [] false 4 (.inl rfl) (by simp)) ?_ | refine awp_rounds 2 ?_ | refine arounds_step fun K hK => ?_ | (refine awp_planI (rid := 11) ([0, 1, 2, 3, 4, 5, 6, 7] : List Nat) ([[], [0], [0, 1], [], [], [4], [0, 1, 2, 3, 4, 5], [0, 1, 2, 3, 4, 5, 6]] : List (List Nat)) ([(6, ([[], [0], [0, 1], [], [], [4]], [(2, 5)])), (1, ([], [])), (1, ([], []))] : List (Nat × List (List Nat) × List (Nat × Nat))) (by kernel_rfl) (by kernel_rfl) (by kernel_rfl) ?_) | (refine awp_planI (rid := 17) ([0, 1, 2, 3, 4, 5, 6, 7, 8, 9] : List Nat) ([[], [0], [0, 1], [], [], [4], [4, 5], [0, 1, 2, 3, 4, 5, 6], [0, 1, 2, 3, 4, 5, 6, 7], [0, 1, 2, 3, 4, 5, 6, 7, 8]] : List (List Nat)) ([(7, ([[], [0], [0, 1], [], [], [4], [4, 5]], [(2, 6)])), (1, ([], [])), (1, ([], [])), (1, ([], []))] : List (Nat × List (List Nat) × List (Nat × Nat))) (by kernel_rfl) (by kernel_rfl) (by kernel_rfl) ?_) | exact rt | fail) <;> (refine af ?_; (repeat intro K hK); refine wr ?_))
end Go.Proofs.YtpifpdjefbehmaaGreat
