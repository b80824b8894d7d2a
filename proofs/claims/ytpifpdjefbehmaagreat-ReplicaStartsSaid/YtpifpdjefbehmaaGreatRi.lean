/- Replicas: SameReplica; the law's part that is no fixed run. -/
import Derived.Test.YtpifpdjefbehmaaGreatRh
namespace Go.Proofs.YtpifpdjefbehmaaGreat
open Go.Ab Go.RowKit
set_option linter.unusedSimpArgs false
set_option maxRecDepth 100000
set_option maxHeartbeats 16000000
theorem sameRep_ok (host role gen : Int) (m : MchD) (c : Int) (n : MchD) (k d : Int) (ga gb mark sa sb sc ra rb wa wb wc beats cmd cmdAt : Int) (hm : m.mem.length ≤ 100000) (hn : n.mem.length ≤ 100000) :
    Meets Tryz.prog 9 [.st (RepD.row ⟨host, role, gen, ⟨m, c, [], []⟩, ⟨n, [], k, d⟩, ⟨[], ga, gb⟩, mark, ⟨sa, sb, sc, []⟩, ⟨ra, rb, []⟩, ⟨wa, wb, wc⟩, beats, cmd, cmdAt, []⟩),
      .st (RepD.row ⟨host, role, gen, ⟨m, c, [], []⟩, ⟨n, [], k, d⟩, ⟨[], ga, gb⟩, mark, ⟨sa, sb, sc, []⟩, ⟨ra, rb, []⟩, ⟨wa, wb, wc⟩, beats, cmd, cmdAt, []⟩)] (.bool true) := by
  refine Meets.of Tryz.func9 rfl (by kernel_rfl) rfl ?_
  simp only [Tryz.ntmps9, St.start, argT]
  refine au1 @eqCs.eq_1 ?_
  repeat intro K hK
  refine wr ?_
  (refine au1 @eqCs.eq_1 ?_; (repeat intro K hK); refine wr ?_)
  repeat' ((first | (refine awp_cond rfl (fun h => ?_) (fun h => ?_) <;> (first | (simp [eqCs] at h; done) | (simp [eqCs] at h) | skip) <;> (first | (exfalso; omega) | skip)) | refine cc1 (sameRec_ok m c hm) @eqCs.eq_1 ?_ | refine cc1 (sameRpl_ok n k d hn) @eqCs.eq_1 ?_ | refine cc1 (sameGate_ok ga gb) @eqCs.eq_1 ?_ | refine cc1 (sameSnd_ok sa sb sc) @eqCs.eq_1 ?_ | refine cc1 (sameRcv_ok ra rb) @eqCs.eq_1 ?_ | refine cc1 (sameEnt_ok) @eqCs.eq_1 ?_ | exact rt1 @eqCs.eq_1 | fail) <;> (refine au1 @eqCs.eq_1 ?_; (repeat intro K hK); refine wr ?_))
end Go.Proofs.YtpifpdjefbehmaaGreat
