/- Replicas, the fixed run: the backup receives the packet and replays. -/
import Derived.Test.YtpifpdjefbehmaaGreatTa
import Derived.Test.YtpifpdjefbehmaaGreatAd
namespace Go.Proofs.YtpifpdjefbehmaaGreat
open Go.Ab Go.RowKit
set_option linter.unusedSimpArgs false
set_option maxRecDepth 100000
set_option maxHeartbeats 16000000
/-- the backup: its guest, the known position, the number that it waits for, the known position of its receiver -/
abbrev wB (s c n k a b : Int) : RepD := repQ 1 2 1 zMch 0 (mk s c n) k 0 0 0 0 0 0 0 a b 2 0 0 0 0 0 []
abbrev rplR (s c n k : Int) : RplD := ⟨mk s c n, [], k, 0⟩
theorem feed0_ok : Meets Tryz.prog 140 [.st (rplR 1 0 0 0).row, .sl 4 false [], lv 3] (.tup [.st (rplR 1 0 0 3).row, .bool true]) := by
  refine Meets.of Tryz.func140 rfl (by kernel_rfl) rfl ?_
  simp only [Tryz.ntmps140, St.start, argT]
  refine au ?_
  repeat intro K hK
  refine wr ?_
  (refine au ?_; (repeat intro K hK); refine wr ?_)
  repeat' ((first | (refine awp_cond rfl (fun h => ?_) (fun h => ?_) <;> (first | (simp at h; done) | (simp at h) | skip) <;> (first | (exfalso; omega) | skip)) | refine cc (rplCop_ok (rplR 1 0 0 0) (lenM _ _ _) (by simp)) ?_ | refine cc (concat0_ok) ?_ | refine cc (ord0_ok) ?_ | refine awp_rounds 1 ?_ | refine arounds_step fun K hK => ?_ | exact rt | fail) <;> (refine au ?_; (repeat intro K hK); refine wr ?_))
theorem deliver0_ok : Meets Tryz.prog 84 [.st (wB 1 0 0 0 1 0).row, .st [lv 2, lv 3, .sl 4 false []], .sl 3 false [[lv 0, lv 3, .sl 4 false []]]] (.tup [.st (wB 1 0 0 3 2 3).row, .bool true]) := by
  refine Meets.of Tryz.func84 rfl (by kernel_rfl) rfl ?_
  simp only [Tryz.ntmps84, St.start, argT]
  refine au ?_
  repeat intro K hK
  refine wr ?_
  (refine af ?_; (repeat intro K hK); refine wr ?_)
  repeat' ((first | (refine awp_cond rfl (fun h => ?_) (fun h => ?_) <;> (first | (simp at h; done) | (simp at h) | skip) <;> (first | (exfalso; omega) | skip)) | refine cc (feed0_ok) ?_ | refine cc (concat0_ok) ?_ | refine awp_rounds 2 ?_ | refine arounds_step fun K hK => ?_ | (refine awp_planI (rid := 1) ([0, 1, 2, 3, 4, 5, 6] : List Nat) ([[], [0], [], [2], [], [0, 1, 4], [0, 1, 2, 3, 4, 5]] : List (List Nat)) ([(6, ([[], [0], [], [2], [], [0, 1, 4]], [(1, 4), (3, 4), (3, 5)])), (1, ([], []))] : List (Nat × List (List Nat) × List (Nat × Nat))) (by kernel_rfl) (by kernel_rfl) (by kernel_rfl) ?_) | (refine awp_planI (rid := 11) ([0, 1, 2, 3, 4, 5, 6, 7, 8] : List Nat) ([[], [], [], [0], [0, 3], [0, 1, 3, 4], [0, 1, 3, 4, 5], [0, 1, 2, 3, 4, 5, 6], [0, 1, 2, 3, 4, 5, 6, 7]] : List (List Nat)) ([(7, ([[], [], [], [0], [0, 3], [0, 1, 3, 4], [0, 1, 3, 4, 5]], [(1, 4)])), (1, ([], [])), (1, ([], []))] : List (Nat × List (List Nat) × List (Nat × Nat))) (by kernel_rfl) (by kernel_rfl) (by kernel_rfl) ?_) | exact rt | fail) <;> (refine af ?_; (repeat intro K hK); refine wr ?_))
theorem atBack0_ok : Meets Tryz.prog 42 [.st (wB 1 0 0 0 1 0).row, .str pkA] (.tup [.st (wB 1 0 0 3 2 3).row, .bool true]) := by
  refine Meets.of Tryz.func42 rfl (by kernel_rfl) rfl ?_
  simp only [Tryz.ntmps42, St.start, argT]
  refine au ?_
  repeat intro K hK
  refine wr ?_
  (refine au ?_; (repeat intro K hK); refine wr ?_)
  repeat' ((first | (refine awp_cond rfl (fun h => ?_) (fun h => ?_) <;> (first | (simp at h; done) | (simp at h) | skip) <;> (first | (exfalso; omega) | skip)) | refine cc (take0_ok) ?_ | refine cc (deliver0_ok) ?_ | exact rt | fail) <;> (refine au ?_; (repeat intro K hK); refine wr ?_))
theorem cloneB_ok (s c n k a b : Int) : Meets Tryz.prog 35 [.st (wB s c n k a b).row] (.st (wB s c n k a b).row) :=
  clone0_ok 1 2 1 zMch 0 (mk s c n) k 0 0 0 0 0 0 0 a b 2 0 0 0 0 0 (by decide) (lenM _ _ _)
theorem recvB_ok : Meets Tryz.prog 14 [.st (wB 1 0 0 0 1 0).row, .str pkA] (.tup [.st (wB 1 0 0 3 2 3).row, .bool true]) := by
  refine Meets.of Tryz.func14 rfl (by kernel_rfl) rfl ?_
  simp only [Tryz.ntmps14, St.start, argT]
  refine au ?_
  repeat intro K hK
  refine wr ?_
  (refine au ?_; (repeat intro K hK); refine wr ?_)
  repeat' ((first | (refine awp_cond rfl (fun h => ?_) (fun h => ?_) <;> (first | (simp at h; done) | (simp at h) | skip) <;> (first | (exfalso; omega) | skip)) | refine cc (cloneB_ok 1 0 0 0 1 0) ?_ | refine cc (atBack0_ok) ?_ | exact rt | fail) <;> (refine au ?_; (repeat intro K hK); refine wr ?_))
theorem rdue_ok {nx : Nat} {ob : List (Nat × Option Ob)} (id sz off : Nat) (k : Int) :
    InlC Tryz.prog 122 [.ptr id sz 0 off, lv k] nx ob fun r nx' ob' => r = .cap 178 [] [some (nx, 1), some (nx + 1, 1)] ∧ nx' = nx + 2 ∧ ob' = (nx + 1, some ⟨38, 1, true, false, [[lv k]]⟩) :: (nx, some ⟨211, 1, true, false, [[.ptr id sz 0 off]]⟩) :: ob := by
  refine InlC.of Tryz.func122 rfl (by kernel_rfl) rfl ?_
  simp only [Tryz.ntmps122, St.startI, argT]
  refine au ?_
  repeat intro K hK
  refine wr ?_
  (refine au ?_; (repeat intro K hK); refine wr ?_)
  repeat' ((first | (refine awp_cond rfl (fun h => ?_) (fun h => ?_) <;> (first | (simp at h; done) | (simp at h) | skip) <;> (first | (exfalso; omega) | skip)) | exact rt | fail) <;> (refine au ?_; (repeat intro K hK); refine wr ?_))
theorem due1_ok {nx : Nat} {ob : List (Nat × Option Ob)} (a b id sz off : Nat) (k : Int) (cs : List V) (ha : lookO ob a = some ⟨211, 1, true, false, [[.ptr id sz 0 off]]⟩) (hb : lookO ob b = some ⟨38, 1, true, false, [[lv k]]⟩)
    (hi : lookO ob id = some ⟨47, sz, true, false, [cs]⟩) (hc : cs[off]? = some (.sl 4 false [])) (ho : off < sz) :
    InlC Tryz.prog 178 [.poi, .ptr a 1 0 0, .ptr b 1 0 0] nx ob fun r nx' ob' => r = .tup [] ∧ nx' = nx ∧ ob' = ob := by
  refine InlC.of Tryz.func178 rfl (by kernel_rfl) rfl ?_
  simp only [Tryz.ntmps178, St.startI, argT]
  refine au5 @ha @hb @hi @hc @ho ?_
  repeat intro K hK
  refine wr ?_
  (first | (refine af5 @ha @hb @hi @hc @ho ?_; (repeat intro K hK); refine wr ?_) | exact afd5 @ha @hb @hi @hc @ho)
  repeat' ((first | (refine awp_cond rfl (fun h => ?_) (fun h => ?_) <;> (first | (simp [ha, hb, hi, hc, ho] at h; done) | (simp [ha, hb, hi, hc, ho] at h) | skip) <;> (first | (exfalso; omega) | skip)) | refine awp_rounds 1 ?_ | refine arounds_step fun K hK => ?_ | (refine awp_planI (rid := 0) ([0, 1, 2, 3, 4, 5, 6, 7, 8, 9, 10, 11, 12, 13, 14, 15, 16, 17, 18, 19, 20, 21, 22, 23, 24] : List Nat) ([[], [0], [0, 1], [0, 1, 2], [0, 1, 2, 3], [0, 1, 2, 3, 4], [0, 1, 2, 3, 4, 5], [0, 1, 2, 3, 4, 5, 6], [0, 1, 2, 3, 4, 5, 6, 7], [0, 1, 2, 3, 4, 5, 6, 7, 8], [0, 1, 2, 3, 4, 5, 6, 7, 8, 9], [0, 1, 2, 3, 4, 5, 6, 7, 8, 9, 10], [0, 1, 2, 3, 4, 5], [0, 1, 2, 3, 4, 5, 6, 7, 8, 9, 10, 11, 12], [0, 1, 2, 3, 4, 5, 6, 7, 8, 9, 10, 11, 12, 13], [0, 1, 2, 3, 4, 5, 6, 7, 8, 9, 10, 11, 12, 13, 14], [0, 1, 2, 3, 4, 5, 6, 7, 8, 9, 10, 11, 12, 13, 14, 15], [0, 1, 2, 3, 4, 5, 6, 7, 8, 9, 10, 11, 12, 13, 14, 15, 16], [0, 1, 2, 3, 4, 5, 6, 7, 8, 9, 10, 11, 12, 13, 14, 15, 16, 17], [0, 1, 2, 3, 4, 5, 6, 7, 8, 9, 10, 11, 12, 13, 14, 15, 16, 17, 18], [0, 1, 2, 3, 4, 5, 6, 7, 8, 9, 10, 11, 12, 13, 14, 15, 16, 17, 18, 19], [0, 1, 2, 3, 4, 5, 6, 7, 8, 9, 10, 11, 12, 13, 14, 15, 16, 17, 18, 19, 20], [0, 1, 2, 3, 4, 5, 6, 7, 8, 9, 10, 11, 12, 13, 14, 15, 16, 17, 18, 19, 20, 21], [0, 1, 2, 3, 4, 5, 6, 7, 8, 9, 10, 11, 12, 13, 14, 15, 16, 17, 18, 19, 20, 21, 22], [0, 1, 2, 3, 4, 5, 6, 7, 8, 9, 10, 11, 12, 13, 14, 15, 16, 17, 18, 19, 20, 21, 22, 23]] : List (List Nat)) ([(1, ([], [])), (1, ([], [])), (1, ([], [])), (1, ([], [])), (1, ([], [])), (1, ([], [])), (7, ([[], [0], [0, 1], [0, 1, 2], [0, 1, 2, 3], [0, 1, 2, 3, 4], []], [])), (1, ([], [])), (1, ([], [])), (1, ([], [])), (1, ([], [])), (1, ([], [])), (1, ([], [])), (1, ([], [])), (1, ([], [])), (1, ([], [])), (1, ([], [])), (1, ([], [])), (1, ([], []))] : List (Nat × List (List Nat) × List (Nat × Nat))) (by kernel_rfl) (by kernel_rfl) (by kernel_rfl) ?_) | (refine awp_planI (rid := 2) ([0, 1, 2, 3, 4, 5, 6] : List Nat) ([[], [], [1], [1, 2], [1, 2, 3], [0, 1, 2, 3, 4], [0, 1, 2, 3, 4, 5]] : List (List Nat)) ([(5, ([[], [], [1], [1, 2], [1, 2, 3]], [])), (1, ([], [])), (1, ([], []))] : List (Nat × List (List Nat) × List (Nat × Nat))) (by kernel_rfl) (by kernel_rfl) (by kernel_rfl) ?_) | exact rt5 @ha @hb @hi @hc @ho | fail) <;> (first | (refine af5 @ha @hb @hi @hc @ho ?_; (repeat intro K hK); refine wr ?_) | exact afd5 @ha @hb @hi @hc @ho))
end Go.Proofs.YtpifpdjefbehmaaGreat
