/- Replicas: contracts of New, Primary, Backup, on both sides. -/
import Derived.Test.YtpifpdjefbehmaaGreatRb
import Derived.Test.YtpifpdjefbehmaaGreatRep
namespace Go.Proofs.YtpifpdjefbehmaaGreat
open Go.Ab Go.RowKit
set_option linter.unusedSimpArgs false
set_option maxRecDepth 100000
set_option maxHeartbeats 8000000
theorem cloneE (xs : List (List V)) (t : Bool) (z : Nat) (hz : z = 4 ∨ (z = 0 ∧ xs = [])) (hb : xs.length ≤ 100000) : Meets Tryz.prog 61 [.sl z t xs] (.new 116 4 xs) := by
  refine Meets.of Tryz.func61 rfl (by kernel_rfl) rfl ?_
  simp only [Tryz.ntmps61, St.start, argT]
  refine au ?_
  repeat intro K hK
  refine wr ?_
  refine ⟨?_, fun hx => ?_⟩
  · refine au ?_
    repeat intro K hK
    refine wr ?_
    refine awp_cond rfl (fun h => by simp at h) (fun _ => ?_)
    refine aum1 @maxLen.eq_1 ?_
    repeat intro K hK
    refine wr ?_
    refine awp_ret ?_
    simp
  · subst hx
    refine au ?_
    repeat intro K hK
    refine wr ?_
    refine awp_cond rfl (fun _ => ?_) (fun h => by simp at h)
    refine au ?_
    repeat intro K hK
    refine wr ?_
    refine awp_nilOwn 2 116 4 (by decide) rfl ?_
    refine awp_ret ?_
    simp
theorem cloneV (xs : List (List V)) (t : Bool) (z : Nat) (hz : z = 3 ∨ (z = 0 ∧ xs = [])) (hb : xs.length ≤ 100000) : Meets Tryz.prog 62 [.sl z t xs] (.new 108 3 xs) := by
  refine Meets.of Tryz.func62 rfl (by kernel_rfl) rfl ?_
  simp only [Tryz.ntmps62, St.start, argT]
  refine au ?_
  repeat intro K hK
  refine wr ?_
  refine ⟨?_, fun hx => ?_⟩
  · refine au ?_
    repeat intro K hK
    refine wr ?_
    refine awp_cond rfl (fun h => by simp at h) (fun _ => ?_)
    refine aum1 @maxLen.eq_1 ?_
    repeat intro K hK
    refine wr ?_
    refine awp_ret ?_
    simp
  · subst hx
    refine au ?_
    repeat intro K hK
    refine wr ?_
    refine awp_cond rfl (fun _ => ?_) (fun h => by simp at h)
    refine au ?_
    repeat intro K hK
    refine wr ?_
    refine awp_nilOwn 2 108 3 (by decide) rfl ?_
    refine awp_ret ?_
    simp
theorem cloneO (xs : List (List V)) (t : Bool) (z : Nat) (hz : z = 4 ∨ (z = 0 ∧ xs = [])) (hb : xs.length ≤ 100000) : Meets Tryz.prog 63 [.sl z t xs] (.new 134 4 xs) := by
  refine Meets.of Tryz.func63 rfl (by kernel_rfl) rfl ?_
  simp only [Tryz.ntmps63, St.start, argT]
  refine au ?_
  repeat intro K hK
  refine wr ?_
  refine ⟨?_, fun hx => ?_⟩
  · refine au ?_
    repeat intro K hK
    refine wr ?_
    refine awp_cond rfl (fun h => by simp at h) (fun _ => ?_)
    refine aum1 @maxLen.eq_1 ?_
    repeat intro K hK
    refine wr ?_
    refine awp_ret ?_
    simp
  · subst hx
    refine au ?_
    repeat intro K hK
    refine wr ?_
    refine awp_cond rfl (fun _ => ?_) (fun h => by simp at h)
    refine au ?_
    repeat intro K hK
    refine wr ?_
    refine awp_nilOwn 2 134 4 (by decide) rfl ?_
    refine awp_ret ?_
    simp
theorem cloneS (xs : List (List V)) (t : Bool) (z : Nat) (hz : z = 3 ∨ (z = 0 ∧ xs = [])) (hb : xs.length ≤ 100000) : Meets Tryz.prog 64 [.sl z t xs] (.new 112 3 xs) := by
  refine Meets.of Tryz.func64 rfl (by kernel_rfl) rfl ?_
  simp only [Tryz.ntmps64, St.start, argT]
  refine au ?_
  repeat intro K hK
  refine wr ?_
  refine ⟨?_, fun hx => ?_⟩
  · refine au ?_
    repeat intro K hK
    refine wr ?_
    refine awp_cond rfl (fun h => by simp at h) (fun _ => ?_)
    refine aum1 @maxLen.eq_1 ?_
    repeat intro K hK
    refine wr ?_
    refine awp_ret ?_
    simp
  · subst hx
    refine au ?_
    repeat intro K hK
    refine wr ?_
    refine awp_cond rfl (fun _ => ?_) (fun h => by simp at h)
    refine au ?_
    repeat intro K hK
    refine wr ?_
    refine awp_nilOwn 2 112 3 (by decide) rfl ?_
    refine awp_ret ?_
    simp
theorem cloneY (xs : List (List V)) (t : Bool) (z : Nat) (hz : z = 4 ∨ (z = 0 ∧ xs = [])) (hb : xs.length ≤ 100000) : Meets Tryz.prog 66 [.sl z t xs] (.new 114 4 xs) := by
  refine Meets.of Tryz.func66 rfl (by kernel_rfl) rfl ?_
  simp only [Tryz.ntmps66, St.start, argT]
  refine au ?_
  repeat intro K hK
  refine wr ?_
  refine ⟨?_, fun hx => ?_⟩
  · refine au ?_
    repeat intro K hK
    refine wr ?_
    refine awp_cond rfl (fun h => by simp at h) (fun _ => ?_)
    refine aum1 @maxLen.eq_1 ?_
    repeat intro K hK
    refine wr ?_
    refine awp_ret ?_
    simp
  · subst hx
    refine au ?_
    repeat intro K hK
    refine wr ?_
    refine awp_cond rfl (fun _ => ?_) (fun h => by simp at h)
    refine au ?_
    repeat intro K hK
    refine wr ?_
    refine awp_nilOwn 2 114 4 (by decide) rfl ?_
    refine awp_ret ?_
    simp
theorem ents_len (l : List EntD) : (ents l).length = l.length := by simp [ents]
theorem evs_len (l : List EvD) : (evs l).length = l.length := by simp [evs]
theorem recCop_ok (r : RecD) (h1 : r.m.mem.length ≤ 100000) (h2 : r.log.length ≤ 100000) (h3 : r.queue.length ≤ 100000) : Meets Tryz.prog 47 [.st r.row] (.st r.row) := by
  refine Meets.of Tryz.func47 rfl (by kernel_rfl) rfl ?_
  simp only [Tryz.ntmps47, St.start, argT]
  refine au ?_
  repeat intro K hK
  refine wr ?_
  (refine au ?_; (repeat intro K hK); refine wr ?_)
  repeat' ((first | (refine awp_cond rfl (fun h => ?_) (fun h => ?_) <;> (first | (simp at h; done) | (simp at h) | skip) <;> (first | (exfalso; omega) | skip)) | refine cc (cloneW (ints .u32 r.m.mem) false 1 (.inl rfl) (by rw [ints_len']; exact h1)) ?_ | refine cc (cloneE (ents r.log) false 4 (.inl rfl) (by rw [ents_len]; exact h2)) ?_ | refine cc (cloneV (evs r.queue) false 3 (.inl rfl) (by rw [evs_len]; exact h3)) ?_ | exact rt | fail) <;> (refine au ?_; (repeat intro K hK); refine wr ?_))
theorem rplCop_ok (r : RplD) (h1 : r.m.mem.length ≤ 100000) (h2 : r.log.length ≤ 100000) : Meets Tryz.prog 51 [.st r.row] (.st r.row) := by
  refine Meets.of Tryz.func51 rfl (by kernel_rfl) rfl ?_
  simp only [Tryz.ntmps51, St.start, argT]
  refine au ?_
  repeat intro K hK
  refine wr ?_
  (refine au ?_; (repeat intro K hK); refine wr ?_)
  repeat' ((first | (refine awp_cond rfl (fun h => ?_) (fun h => ?_) <;> (first | (simp at h; done) | (simp at h) | skip) <;> (first | (exfalso; omega) | skip)) | refine cc (cloneW (ints .u32 r.m.mem) false 1 (.inl rfl) (by rw [ints_len']; exact h1)) ?_ | refine cc (cloneE (ents r.log) false 4 (.inl rfl) (by rw [ents_len]; exact h2)) ?_ | exact rt | fail) <;> (refine au ?_; (repeat intro K hK); refine wr ?_))
theorem recNew_ok (m : MchD) (h1 : m.mem.length ≤ 100000) : Meets Tryz.prog 18 [.st m.row] (.st (RecD.row ⟨m, 0, [], []⟩)) := by
  refine Meets.of Tryz.func18 rfl (by kernel_rfl) rfl ?_
  simp only [Tryz.ntmps18, St.start, argT]
  refine au ?_
  repeat intro K hK
  refine wr ?_
  (refine au2 @ents.eq_1 @evs.eq_1 ?_; (repeat intro K hK); refine wr ?_)
  repeat' ((first | (refine awp_cond rfl (fun h => ?_) (fun h => ?_) <;> (first | (simp [ents, evs] at h; done) | (simp [ents, evs] at h) | skip) <;> (first | (exfalso; omega) | skip)) | refine cc2 (recCop_ok ⟨m, 0, [], []⟩ h1 (by simp) (by simp)) @ents.eq_1 @evs.eq_1 ?_ | exact rt2 @ents.eq_1 @evs.eq_1 | fail) <;> (refine au2 @ents.eq_1 @evs.eq_1 ?_; (repeat intro K hK); refine wr ?_))
theorem rplNew_ok (m : MchD) (h1 : m.mem.length ≤ 100000) : Meets Tryz.prog 23 [.st m.row] (.st (RplD.row ⟨m, [], m.count, 0⟩)) := by
  refine Meets.of Tryz.func23 rfl (by kernel_rfl) rfl ?_
  simp only [Tryz.ntmps23, St.start, argT]
  refine au ?_
  repeat intro K hK
  refine wr ?_
  (refine au1 @ents.eq_1 ?_; (repeat intro K hK); refine wr ?_)
  repeat' ((first | (refine awp_cond rfl (fun h => ?_) (fun h => ?_) <;> (first | (simp [ents] at h; done) | (simp [ents] at h) | skip) <;> (first | (exfalso; omega) | skip)) | refine cc1 (rplCop_ok ⟨m, [], m.count, 0⟩ h1 (by simp)) @ents.eq_1 ?_ | exact rt1 @ents.eq_1 | fail) <;> (refine au1 @ents.eq_1 ?_; (repeat intro K hK); refine wr ?_))
theorem strNew_ok (n : Int) : Meets Tryz.prog 19 [lv n] (.tup [.st (SndD.row ⟨1, n, n, []⟩), .st (RcvD.row ⟨1, n, []⟩)]) := by
  refine Meets.of Tryz.func19 rfl (by kernel_rfl) rfl ?_
  simp only [Tryz.ntmps19, St.start, argT]
  refine au ?_
  repeat intro K hK
  refine wr ?_
  (refine au2 @segs.eq_1 @earls.eq_1 ?_; (repeat intro K hK); refine wr ?_)
  repeat' ((first | (refine awp_cond rfl (fun h => ?_) (fun h => ?_) <;> (first | (simp [segs, earls] at h; done) | (simp [segs, earls] at h) | skip) <;> (first | (exfalso; omega) | skip)) | exact rt2 @segs.eq_1 @earls.eq_1 | fail) <;> (refine au2 @segs.eq_1 @earls.eq_1 ?_; (repeat intro K hK); refine wr ?_))
theorem detVal_ok (d : DetD) : Meets Tryz.prog 86 [.st d.row] (.bool (decide (1 ≤ d.limit) && decide (d.limit ≤ 20) && decide (0 ≤ d.silent) && decide (d.silent ≤ d.limit))) := by
  refine Meets.of Tryz.func86 rfl (by kernel_rfl) rfl ?_
  simp only [Tryz.ntmps86, St.start, argT]
  refine au ?_
  repeat intro K hK
  refine wr ?_
  (refine au ?_; (repeat intro K hK); refine wr ?_)
  repeat' ((first | (refine awp_cond rfl (fun h => ?_) (fun h => ?_) <;> (first | (simp at h; done) | (simp at h) | skip) <;> (first | (exfalso; omega) | skip)) | exact rt | fail) <;> (refine au ?_; (repeat intro K hK); refine wr ?_))
theorem hbNew_ok (k : Int) : Meets Tryz.prog 45 [iv k] (.tup [.st (DetD.row (if detOk k then ⟨k, 0, 0⟩ else zDet)), .bool (detOk k)]) := by
  refine Meets.of Tryz.func45 rfl (by kernel_rfl) rfl ?_
  simp only [Tryz.ntmps45, St.start, argT]
  refine au ?_
  repeat intro K hK
  refine wr ?_
  (refine au2 @detOk.eq_1 @zDet.eq_1 ?_; (repeat intro K hK); refine wr ?_)
  repeat' ((first | (refine awp_cond rfl (fun h => ?_) (fun h => ?_) <;> (first | (simp [detOk, zDet] at h; done) | (simp [detOk, zDet] at h) | skip) <;> (first | (exfalso; omega) | skip)) | refine cc2 (detVal_ok ⟨k, 0, 0⟩) @detOk.eq_1 @zDet.eq_1 ?_ | exact rt2 @detOk.eq_1 @zDet.eq_1 | fail) <;> (refine au2 @detOk.eq_1 @zDet.eq_1 ?_; (repeat intro K hK); refine wr ?_))
end Go.Proofs.YtpifpdjefbehmaaGreat
