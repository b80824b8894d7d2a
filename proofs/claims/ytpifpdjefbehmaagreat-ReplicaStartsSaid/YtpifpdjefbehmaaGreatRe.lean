/- Replicas, the document's side: May, New, Primary, Backup. -/
import Derived.Test.YtpifpdjefbehmaaGreatRd
namespace Go.Proofs.YtpifpdjefbehmaaGreat
open Go.Ab Go.RowKit
set_option linter.unusedSimpArgs false
set_option maxRecDepth 100000
set_option maxHeartbeats 8000000
theorem rpages_ok (l : List Int) : Meets Tryz.prog 90 [memV l] (iv (pagesD l)) := by
  refine Meets.of Tryz.func90 rfl (by kernel_rfl) rfl ?_
  simp only [Tryz.ntmps90, St.start, argT]
  refine au1 @ints_len' ?_
  repeat intro K hK
  refine wr ?_
  (refine au2 @ints_len' @pagesD.eq_1 ?_; (repeat intro K hK); refine wr ?_)
  repeat' ((first | (refine awp_cond rfl (fun h => ?_) (fun h => ?_) <;> (first | (simp [ints_len', pagesD] at h; done) | (simp [ints_len', pagesD] at h) | skip) <;> (first | (exfalso; omega) | skip)) | exact rt2 @ints_len' @pagesD.eq_1 | fail) <;> (refine au2 @ints_len' @pagesD.eq_1 ?_; (repeat intro K hK); refine wr ?_))
theorem rconMay_ok (s : Str) : Meets Tryz.prog 91 [.st [.str s]] (.bool (decide ((s.length : Int) ≤ 16))) := by
  refine Meets.of Tryz.func91 rfl (by kernel_rfl) rfl ?_
  simp only [Tryz.ntmps91, St.start, argT]
  refine au ?_
  repeat intro K hK
  refine wr ?_
  (refine au ?_; (repeat intro K hK); refine wr ?_)
  repeat' ((first | (refine awp_cond rfl (fun h => ?_) (fun h => ?_) <;> (first | (simp at h; done) | (simp at h) | skip) <;> (first | (exfalso; omega) | skip)) | exact rt | fail) <;> (refine au ?_; (repeat intro K hK); refine wr ?_))
theorem rtimMay_ok (t : TimD) : Meets Tryz.prog 92 [.st t.row] (.bool (timMay t)) := by
  refine Meets.of Tryz.func92 rfl (by kernel_rfl) rfl ?_
  simp only [Tryz.ntmps92, St.start, argT]
  refine au ?_
  repeat intro K hK
  refine wr ?_
  (refine au1 @timMay.eq_1 ?_; (repeat intro K hK); refine wr ?_)
  repeat' ((first | (refine awp_cond rfl (fun h => ?_) (fun h => ?_) <;> (first | (simp [timMay] at h; done) | (simp [timMay] at h) | skip) <;> (first | (exfalso; omega) | skip)) | exact rt1 @timMay.eq_1 | fail) <;> (refine au1 @timMay.eq_1 ?_; (repeat intro K hK); refine wr ?_))
theorem rdskMay_ok (d : DskD) (p : Int) : Meets Tryz.prog 93 [.st d.row, iv p] (.bool (dskMay d p)) := by
  refine Meets.of Tryz.func93 rfl (by kernel_rfl) rfl ?_
  simp only [Tryz.ntmps93, St.start, argT]
  refine au ?_
  repeat intro K hK
  refine wr ?_
  (refine au2 @dskMay.eq_1 @cmdMay.eq_1 ?_; (repeat intro K hK); refine wr ?_)
  repeat' ((first | (refine awp_cond rfl (fun h => ?_) (fun h => ?_) <;> (first | (simp [dskMay, cmdMay] at h; done) | (simp [dskMay, cmdMay] at h) | skip) <;> (first | (exfalso; omega) | skip)) | exact rt2 @dskMay.eq_1 @cmdMay.eq_1 | fail) <;> (refine au2 @dskMay.eq_1 @cmdMay.eq_1 ?_; (repeat intro K hK); refine wr ?_))
theorem rnicMay_ok (n : NicD) (p : Int) : Meets Tryz.prog 94 [.st n.row, iv p] (.bool (nicMay n p)) := by
  refine Meets.of Tryz.func94 rfl (by kernel_rfl) rfl ?_
  simp only [Tryz.ntmps94, St.start, argT]
  refine au ?_
  repeat intro K hK
  refine wr ?_
  (refine au1 @nicMay.eq_1 ?_; (repeat intro K hK); refine wr ?_)
  repeat' ((first | (refine awp_cond rfl (fun h => ?_) (fun h => ?_) <;> (first | (simp [nicMay] at h; done) | (simp [nicMay] at h) | skip) <;> (first | (exfalso; omega) | skip)) | exact rt1 @nicMay.eq_1 | fail) <;> (refine au1 @nicMay.eq_1 ?_; (repeat intro K hK); refine wr ?_))
theorem spl_all {α : Type} (xs ys : List α) (h : xs.length = ys.length) : spl xs 0 ys = ys := by
  apply List.ext_getElem?
  intro j
  rw [spl_get _ _ _ _ (by omega)]
  split
  · simp
  · rw [List.getElem?_eq_none (by omega), List.getElem?_eq_none (by omega)]
theorem spl_rep (z : List V) (l : List Int) : spl (List.replicate l.length z) 0 (ints .u32 l) = ints .u32 l := spl_all _ _ (by simp [ints])
theorem take_ints (l : List Int) : (ints .u32 l).take l.length = ints .u32 l := by rw [List.take_of_length_le]; simp [ints]
theorem rcopy_ok (l : List Int) (h : l.length ≤ 100000) : Meets Tryz.prog 96 [memV l] (.new 22 1 (ints .u32 l)) := by
  refine Meets.of Tryz.func96 rfl (by kernel_rfl) rfl ?_
  simp only [Tryz.ntmps96, St.start, argT]
  refine aum2 @ints_len' @maxLen.eq_1 ?_
  repeat intro K hK
  refine wr ?_
  (refine au4 @ints_len' @maxLen.eq_1 @take_ints @spl_rep ?_; (repeat intro K hK); refine wr ?_)
  repeat' ((first | (refine awp_cond rfl (fun h => ?_) (fun h => ?_) <;> (first | (simp [ints_len', maxLen, take_ints, spl_rep] at h; done) | (simp [ints_len', maxLen, take_ints, spl_rep] at h) | skip) <;> (first | (exfalso; omega) | skip)) | exact rt4 @ints_len' @maxLen.eq_1 @take_ints @spl_rep | fail) <;> (refine au4 @ints_len' @maxLen.eq_1 @take_ints @spl_rep ?_; (repeat intro K hK); refine wr ?_))
theorem rown_ok (m : MchD) (h1 : m.mem.length ≤ 100000) : Meets Tryz.prog 50 [.st m.row] (.st m.row) := by
  refine Meets.of Tryz.func50 rfl (by kernel_rfl) rfl ?_
  simp only [Tryz.ntmps50, St.start, argT]
  refine au ?_
  repeat intro K hK
  refine wr ?_
  (refine au ?_; (repeat intro K hK); refine wr ?_)
  repeat' ((first | (refine awp_cond rfl (fun h => ?_) (fun h => ?_) <;> (first | (simp at h; done) | (simp at h) | skip) <;> (first | (exfalso; omega) | skip)) | refine cc (rcopy_ok m.mem h1) ?_ | exact rt | fail) <;> (refine au ?_; (repeat intro K hK); refine wr ?_))
theorem rrecNew_ok (m : MchD) (h1 : m.mem.length ≤ 100000) : Meets Tryz.prog 21 [.st m.row] (.st (RecD.row ⟨m, 0, [], []⟩)) := by
  refine Meets.of Tryz.func21 rfl (by kernel_rfl) rfl ?_
  simp only [Tryz.ntmps21, St.start, argT]
  refine au ?_
  repeat intro K hK
  refine wr ?_
  (refine au ?_; (repeat intro K hK); refine wr ?_)
  repeat' ((first | (refine awp_cond rfl (fun h => ?_) (fun h => ?_) <;> (first | (simp at h; done) | (simp at h) | skip) <;> (first | (exfalso; omega) | skip)) | refine cc (rown_ok m h1) ?_ | exact rt | fail) <;> (refine au ?_; (repeat intro K hK); refine wr ?_))
theorem rstrNew_ok (n : Int) : Meets Tryz.prog 22 [lv n] (.tup [.st (SndD.row ⟨1, n, n, []⟩), .st (RcvD.row ⟨1, n, []⟩)]) := by
  refine Meets.of Tryz.func22 rfl (by kernel_rfl) rfl ?_
  simp only [Tryz.ntmps22, St.start, argT]
  refine au ?_
  repeat intro K hK
  refine wr ?_
  (refine au ?_; (repeat intro K hK); refine wr ?_)
  repeat' ((first | (refine awp_cond rfl (fun h => ?_) (fun h => ?_) <;> (first | (simp at h; done) | (simp at h) | skip) <;> (first | (exfalso; omega) | skip)) | exact rt | fail) <;> (refine au ?_; (repeat intro K hK); refine wr ?_))
theorem rdetVal_ok (d : DetD) : Meets Tryz.prog 89 [.st d.row] (.bool (decide (1 ≤ d.limit) && decide (d.limit ≤ 20) && decide (0 ≤ d.silent) && decide (d.silent ≤ d.limit))) := by
  refine Meets.of Tryz.func89 rfl (by kernel_rfl) rfl ?_
  simp only [Tryz.ntmps89, St.start, argT]
  refine au ?_
  repeat intro K hK
  refine wr ?_
  (refine au ?_; (repeat intro K hK); refine wr ?_)
  repeat' ((first | (refine awp_cond rfl (fun h => ?_) (fun h => ?_) <;> (first | (simp at h; done) | (simp at h) | skip) <;> (first | (exfalso; omega) | skip)) | exact rt | fail) <;> (refine au ?_; (repeat intro K hK); refine wr ?_))
theorem rhbNew_ok (k : Int) : Meets Tryz.prog 48 [iv k] (.tup [.st (DetD.row (if detOk k then ⟨k, 0, 0⟩ else zDet)), .bool (detOk k)]) := by
  refine Meets.of Tryz.func48 rfl (by kernel_rfl) rfl ?_
  simp only [Tryz.ntmps48, St.start, argT]
  refine au ?_
  repeat intro K hK
  refine wr ?_
  (refine au1 @detOk.eq_1 ?_; (repeat intro K hK); refine wr ?_)
  repeat' ((first | (refine awp_cond rfl (fun h => ?_) (fun h => ?_) <;> (first | (simp [detOk] at h; done) | (simp [detOk] at h) | skip) <;> (first | (exfalso; omega) | skip)) | refine cc1 (rdetVal_ok ⟨k, 0, 0⟩) @detOk.eq_1 ?_ | exact rt1 @detOk.eq_1 | fail) <;> (refine au1 @detOk.eq_1 ?_; (repeat intro K hK); refine wr ?_))
end Go.Proofs.YtpifpdjefbehmaaGreat
