/- Replicas: contracts of fresh, Primary, Backup. -/
import Derived.Test.YtpifpdjefbehmaaGreatRc
namespace Go.Proofs.YtpifpdjefbehmaaGreat
open Go.Ab Go.RowKit
set_option linter.unusedSimpArgs false
set_option maxRecDepth 100000
set_option maxHeartbeats 8000000
abbrev freshV (host : Int) (m : MchD) (gen limit : Int) : V := .tup [.st (RepD.row (if freshOk host m gen limit then freshD host m gen limit else zRep)), .bool (freshOk host m gen limit)]
theorem fresh_ok (host : Int) (m : MchD) (gen limit : Int) (h0 : 0 ≤ m.given) (h1 : m.given ≤ 4294967295) : Meets Tryz.prog 17 [iv host, .st m.row, lv gen, iv limit] (freshV host m gen limit) := by
  cases hd : detOk limit with
  | false =>
    have hf : freshOk host m gen limit = false := by simp [freshOk, hd]
    refine Meets.of Tryz.func17 rfl (by kernel_rfl) rfl ?_
    simp only [Tryz.ntmps17, St.start, argT]
    refine au ?_
    repeat intro K hK
    refine wr ?_
    (refine au2 @hd @hf ?_; (repeat intro K hK); refine wr ?_)
    repeat' ((first | (refine awp_cond rfl (fun h => ?_) (fun h => ?_) <;> (first | (simp [hd, hf] at h; done) | (simp [hd, hf] at h) | skip) <;> (first | (exfalso; omega) | skip)) | refine cc2 (hbNew_ok limit) @hd @hf ?_ | refine cc2 (may_ok m h0 h1) @hd @hf ?_ | exact rt2 @hd @hf | fail) <;> (refine au2 @hd @hf ?_; (repeat intro K hK); refine wr ?_))
  | true =>
    refine Meets.of Tryz.func17 rfl (by kernel_rfl) rfl ?_
    simp only [Tryz.ntmps17, St.start, argT]
    refine au ?_
    repeat intro K hK
    refine wr ?_
    (refine au1 @hd ?_; (repeat intro K hK); refine wr ?_)
    repeat' ((first | (refine awp_cond rfl (fun h => ?_) (fun h => ?_) <;> (first | (simp [hd] at h; done) | (simp [hd] at h) | skip) <;> (first | (exfalso; omega) | skip)) | refine cc1 (hbNew_ok limit) @hd ?_ | refine cc1 (may_ok m h0 h1) @hd ?_ | exact rt1 @hd | fail) <;> (refine au1 @hd ?_; (repeat intro K hK); refine wr ?_))
    · rename_i h _
      have hf : freshOk host m gen limit = false := by simp [freshOk, hd]; grind
      refine awp_ret ?_
      simp [hf]
    · rename_i h _
      have hf : freshOk host m gen limit = true := by simp [freshOk, hd]; grind
      refine awp_ret ?_
      simp [hf, freshD]
abbrev primV (host : Int) (m : MchD) (gen limit : Int) : V := .tup [.st (RepD.row (if freshOk host m gen limit then primD host m gen limit else zRep)), .bool (freshOk host m gen limit)]
abbrev backV (host : Int) (m : MchD) (gen limit : Int) : V := .tup [.st (RepD.row (if freshOk host m gen limit then backD host m gen limit else zRep)), .bool (freshOk host m gen limit)]
theorem prim_ok (host : Int) (m : MchD) (gen limit : Int) (h0 : 0 ≤ m.given) (h1 : m.given ≤ 4294967295) (hm : m.mem.length ≤ 100000) : Meets Tryz.prog 5 [iv host, .st m.row, lv gen, iv limit] (primV host m gen limit) := by
  cases hf : freshOk host m gen limit with
  | false =>
    refine Meets.of Tryz.func5 rfl (by kernel_rfl) rfl ?_
    simp only [Tryz.ntmps5, St.start, argT]
    refine au ?_
    repeat intro K hK
    refine wr ?_
    (refine au1 @hf ?_; (repeat intro K hK); refine wr ?_)
    repeat' ((first | (refine awp_cond rfl (fun h => ?_) (fun h => ?_) <;> (first | (simp [hf] at h; done) | (simp [hf] at h) | skip) <;> (first | (exfalso; omega) | skip)) | refine cc1 (fresh_ok host m gen limit h0 h1) @hf ?_ | exact rt1 @hf | fail) <;> (refine au1 @hf ?_; (repeat intro K hK); refine wr ?_))
  | true =>
    refine Meets.of Tryz.func5 rfl (by kernel_rfl) rfl ?_
    simp only [Tryz.ntmps5, St.start, argT]
    refine au ?_
    repeat intro K hK
    refine wr ?_
    (refine au3 @hf @freshD.eq_1 @primD.eq_1 ?_; (repeat intro K hK); refine wr ?_)
    repeat' ((first | (refine awp_cond rfl (fun h => ?_) (fun h => ?_) <;> (first | (simp [hf, freshD, primD] at h; done) | (simp [hf, freshD, primD] at h) | skip) <;> (first | (exfalso; omega) | skip)) | refine cc3 (fresh_ok host m gen limit h0 h1) @hf @freshD.eq_1 @primD.eq_1 ?_ | refine cc3 (recNew_ok m hm) @hf @freshD.eq_1 @primD.eq_1 ?_ | refine cc3 (strNew_ok m.count) @hf @freshD.eq_1 @primD.eq_1 ?_ | exact rt3 @hf @freshD.eq_1 @primD.eq_1 | fail) <;> (refine au3 @hf @freshD.eq_1 @primD.eq_1 ?_; (repeat intro K hK); refine wr ?_))
theorem back_ok (host : Int) (m : MchD) (gen limit : Int) (h0 : 0 ≤ m.given) (h1 : m.given ≤ 4294967295) (hm : m.mem.length ≤ 100000) : Meets Tryz.prog 7 [iv host, .st m.row, lv gen, iv limit] (backV host m gen limit) := by
  cases hf : freshOk host m gen limit with
  | false =>
    refine Meets.of Tryz.func7 rfl (by kernel_rfl) rfl ?_
    simp only [Tryz.ntmps7, St.start, argT]
    refine au ?_
    repeat intro K hK
    refine wr ?_
    (refine au1 @hf ?_; (repeat intro K hK); refine wr ?_)
    repeat' ((first | (refine awp_cond rfl (fun h => ?_) (fun h => ?_) <;> (first | (simp [hf] at h; done) | (simp [hf] at h) | skip) <;> (first | (exfalso; omega) | skip)) | refine cc1 (fresh_ok host m gen limit h0 h1) @hf ?_ | exact rt1 @hf | fail) <;> (refine au1 @hf ?_; (repeat intro K hK); refine wr ?_))
  | true =>
    refine Meets.of Tryz.func7 rfl (by kernel_rfl) rfl ?_
    simp only [Tryz.ntmps7, St.start, argT]
    refine au ?_
    repeat intro K hK
    refine wr ?_
    (refine au3 @hf @freshD.eq_1 @backD.eq_1 ?_; (repeat intro K hK); refine wr ?_)
    repeat' ((first | (refine awp_cond rfl (fun h => ?_) (fun h => ?_) <;> (first | (simp [hf, freshD, backD] at h; done) | (simp [hf, freshD, backD] at h) | skip) <;> (first | (exfalso; omega) | skip)) | refine cc3 (fresh_ok host m gen limit h0 h1) @hf @freshD.eq_1 @backD.eq_1 ?_ | refine cc3 (rplNew_ok m hm) @hf @freshD.eq_1 @backD.eq_1 ?_ | refine cc3 (strNew_ok m.count) @hf @freshD.eq_1 @backD.eq_1 ?_ | exact rt3 @hf @freshD.eq_1 @backD.eq_1 | fail) <;> (refine au3 @hf @freshD.eq_1 @backD.eq_1 ?_; (repeat intro K hK); refine wr ?_))
end Go.Proofs.YtpifpdjefbehmaaGreat
