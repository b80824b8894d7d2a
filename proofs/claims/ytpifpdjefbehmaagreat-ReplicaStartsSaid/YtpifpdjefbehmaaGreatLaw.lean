/- ReplicaStarts: the law. -/
import Derived.Test.YtpifpdjefbehmaaGreatAw
namespace Go.Proofs.YtpifpdjefbehmaaGreat
open Go.Ab Go.RowKit
set_option linter.unusedSimpArgs false
set_option maxRecDepth 100000
set_option maxHeartbeats 16000000
theorem samePrim_ok (host : Int) (m : MchD) (gen limit : Int) (hm : m.mem.length ≤ 100000) : Meets Tryz.prog 9 [.st (primD host m gen limit).row, .st (primD host m gen limit).row] (.bool true) :=
  sameRep_ok host 1 gen m 0 zMch 0 0 m.count 0 m.count 1 m.count m.count 0 0 limit 0 0 0 0 0 hm (by decide)
theorem sameBack_ok (host : Int) (m : MchD) (gen limit : Int) (hm : m.mem.length ≤ 100000) : Meets Tryz.prog 9 [.st (backD host m gen limit).row, .st (backD host m gen limit).row] (.bool true) :=
  sameRep_ok host 2 gen zMch 0 m m.count 0 m.count 0 m.count 0 0 0 1 m.count limit 0 0 0 0 0 (by decide) hm
theorem sameZero_ok : Meets Tryz.prog 9 [.st zRep.row, .st zRep.row] (.bool true) :=
  sameRep_ok 0 0 0 zMch 0 zMch 0 0 0 0 0 0 0 0 0 0 0 0 0 0 0 0 (by decide) (by decide)
theorem starts_ok (m : MchD) (host gen limit : Int) (h0 : 0 ≤ m.given ∧ m.given ≤ 4294967295) : Meets Tryz.prog 3 [.st m.row, iv host, lv gen, iv limit] (.bool true) := by
  obtain ⟨h0, h1⟩ := h0
  have hil := ints_len' .u32 m.mem
  by_cases hb : (2000 : Int) < m.mem.length
  · refine Meets.of Tryz.func3 rfl (by kernel_rfl) rfl ?_
    simp only [Tryz.ntmps3, St.start, argT]
    refine au2 @hil @hb ?_
    repeat intro K hK
    refine wr ?_
    (refine au2 @hil @hb ?_; (repeat intro K hK); refine wr ?_)
    repeat' ((first | (refine awp_cond rfl (fun h => ?_) (fun h => ?_) <;> (first | (simp [hil, hb] at h; done) | (simp [hil, hb] at h) | skip) <;> (first | (exfalso; omega) | skip)) | refine cc2 (awake_ok) @hil @hb ?_ | exact rt2 @hil @hb | fail) <;> (refine au2 @hil @hb ?_; (repeat intro K hK); refine wr ?_))
  · have hm : m.mem.length ≤ 100000 := by omega
    have e1 := prim_ok host m gen limit h0 h1 hm
    have e2 := rprim_ok host m gen limit h0 h1 hm
    have e3 := back_ok host m gen limit h0 h1 hm
    have e4 := rback_ok host m gen limit h0 h1 hm
    have s1 := samePrim_ok host m gen limit hm
    have s2 := sameBack_ok host m gen limit hm
    cases hf : freshOk host m gen limit with
    | false =>
      simp only [primV, backV, hf, Bool.false_eq_true, if_false] at e1 e2 e3 e4
      refine Meets.of Tryz.func3 rfl (by kernel_rfl) rfl ?_
      simp only [Tryz.ntmps3, St.start, argT]
      refine au1 @hil ?_
      repeat intro K hK
      refine wr ?_
      (refine au1 @hil ?_; (repeat intro K hK); refine wr ?_)
      repeat' ((first | (refine awp_cond rfl (fun h => ?_) (fun h => ?_) <;> (first | (simp [hil] at h; done) | (simp [hil] at h) | skip) <;> (first | (exfalso; omega) | skip)) | refine cc1 (e1) @hil ?_ | refine cc1 (e2) @hil ?_ | refine cc1 (e3) @hil ?_ | refine cc1 (e4) @hil ?_ | refine cc1 (sameZero_ok) @hil ?_ | refine cc1 (awake_ok) @hil ?_ | exact rt1 @hil | fail) <;> (refine au1 @hil ?_; (repeat intro K hK); refine wr ?_))
    | true =>
      simp only [primV, backV, hf, if_true] at e1 e2 e3 e4
      refine Meets.of Tryz.func3 rfl (by kernel_rfl) rfl ?_
      simp only [Tryz.ntmps3, St.start, argT]
      refine au1 @hil ?_
      repeat intro K hK
      refine wr ?_
      (refine au4 @hil @primD.eq_1 @backD.eq_1 @freshD.eq_1 ?_; (repeat intro K hK); refine wr ?_)
      repeat' ((first | (refine awp_cond rfl (fun h => ?_) (fun h => ?_) <;> (first | (simp [hil, primD, backD, freshD] at h; done) | (simp [hil, primD, backD, freshD] at h) | skip) <;> (first | (exfalso; omega) | skip)) | refine cc4 (e1) @hil @primD.eq_1 @backD.eq_1 @freshD.eq_1 ?_ | refine cc4 (e2) @hil @primD.eq_1 @backD.eq_1 @freshD.eq_1 ?_ | refine cc4 (e3) @hil @primD.eq_1 @backD.eq_1 @freshD.eq_1 ?_ | refine cc4 (e4) @hil @primD.eq_1 @backD.eq_1 @freshD.eq_1 ?_ | refine cc4 (s1) @hil @primD.eq_1 @backD.eq_1 @freshD.eq_1 ?_ | refine cc4 (s2) @hil @primD.eq_1 @backD.eq_1 @freshD.eq_1 ?_ | refine cc4 (awake_ok) @hil @primD.eq_1 @backD.eq_1 @freshD.eq_1 ?_ | exact rt4 @hil @primD.eq_1 @backD.eq_1 @freshD.eq_1 | fail) <;> (refine au4 @hil @primD.eq_1 @backD.eq_1 @freshD.eq_1 ?_; (repeat intro K hK); refine wr ?_))
end Go.Proofs.YtpifpdjefbehmaaGreat
